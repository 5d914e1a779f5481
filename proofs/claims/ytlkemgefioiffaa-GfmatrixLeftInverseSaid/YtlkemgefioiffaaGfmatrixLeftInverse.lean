/- GfmatrixLeftInverse answers true, whatever the matrix: the first independent rows and their inverse, or an error if they are fewer than the columns. No condition. -/
import Derived.Test.YtlkemgefioiffaaMat13
import Derived.Test.YtlkemgefioiffaaOpenM
namespace Go.Proofs.Ytlkemgefioiffaa.LGfmatrixLeftInverse
open Go.RowKit Go.WideShapes Go.ChangeShapes Go.ChangeAt
attribute [local irreducible] Calls

theorem rvalid_t {v : Value} {rs : List Row} {w : World} (hv : MatAt w v rs) (hg : Good (els rs)) : Calls Try.prog 14 #[v] w fun e w' => e = .returned (.bool true) ∧ Below w.heap.size w w' := by
  have := rvalid_e v rs w hv; rwa [goodB_iff.2 hg] at this
set_option maxRecDepth 20000 in
set_option maxHeartbeats 2000000 in
theorem walk (w : World) (vm : Value) (m : List Row) (hmm : MatAt w vm m) :
    Calls Try.prog 4 #[vm] w fun en w' => en = .returned (.bool true) ∧ Below w.heap.size w w' := by
  obtain ⟨A, c, rfl, hcc, hm, hs⟩ := hmm.1.open_
  unfold maxLen at hm
  have sa := fun w' hb => small_e _ m w' (hmm.below (w' := w') hb)
  have va := fun w' hb => rvalid_e _ m w' (hmm.below (w' := w') hb)
  by_cases h1 : Small8 m
  · rw [decide_eq_true h1] at sa
    by_cases hg : Good (els m)
    · rw [goodB_iff.2 hg] at va
      have gp := hg.parts
      have sh := hg.shp
      have hrows : ∀ i, i < (els m).length → (nth (els m) i).length = (nth m 0).l.length := fun i hi => sh.2 i (by rw [els_len] at hi; exact hi)
      have hin := fun w' hb => rindep_n _ m w' (hmm.below (w' := w') hb) hg
      have hle := indep_cols hrows
      have hselm := indep_lt hrows
      have hls := left_some hrows
      have hlN := fun v w' hb => leftInverse_n _ m v w' (hmm.below (w' := w') hb) hg (fun k hk => by have := hselm k hk; rwa [els_len] at this)
      have hlF := fun w' hb => leftInverse_few _ m w' (hmm.below (w' := w') hb) hg
      obtain ⟨sel, hsel⟩ : ∃ sel, sel = indep (els m) := ⟨_, rfl⟩
      rw [← hsel] at hin hle hselm hls hlN hlF
      rw [els_len] at hselm
      by_cases hlt : sel.length < (nth m 0).l.length
      · have hf := fun w' hb => hlF w' hb hlt
        refine calls_wc (args := [.slice A m.length c]) [2] [] Try.func4 rfl Try.ntmps4 rfl rfl rfl rfl (H.refl w) ?_
        (refine WC.seq ?_; intro K hK)
        refine WC.region rfl ?_
        refine WL.want rfl (WL1.give rfl (g_assign rfl (.mk (v := .bool _) rfl rfl)) ?_)
        refine WL.nil ?_
        (refine hK _ _ ?_; clear hK)
        (refine WC.seq ?_; intro K hK)
        (refine WC.seq ?_; intro K hK)
        refine WC.region rfl ?_
        refine WL.want rfl (WL1.callP rfl rfl rfl .nil (fun w hw => awake_e w) ?_)
        refine WL.want rfl (WL1.give rfl (g_notT rfl (.mk rfl rfl)) ?_)
        refine WL.nil ?_
        (refine hK _ _ ?_; clear hK)
        refine WC.cond_false (.mk rfl rfl) ?_
        refine WC.skip ?_
        (refine hK _ _ ?_; clear hK)
        (refine WC.seq ?_; intro K hK)
        (refine WC.seq ?_; intro K hK)
        refine WC.region rfl ?_
        refine WL.want rfl (WL1.give rfl (g_move rfl (.mk (v := .slice _ _ _) rfl rfl)) ?_)
        refine WL.want rfl (WL1.callP rfl rfl rfl (.cons (.mk (v := .slice _ _ _) rfl rfl) .nil) (fun w hw => sa w hw.1) ?_)
        refine WL.want rfl (WL1.give rfl (g_notT rfl (.mk rfl rfl)) ?_)
        refine WL.nil ?_
        (refine hK _ _ ?_; clear hK)
        refine WC.cond_false (.mk rfl rfl) ?_
        refine WC.skip ?_
        (refine hK _ _ ?_; clear hK)
        (refine WC.seq ?_; intro K hK)
        refine WC.region rfl ?_
        refine WL.want rfl (WL1.give rfl (g_move rfl (.mk (v := .slice _ _ _) rfl rfl)) ?_)
        refine WL.want rfl (WL1.callP rfl rfl rfl (.cons (.mk (v := .slice _ _ _) rfl rfl) .nil) (fun w hw => hf w hw.1) ?_)
        refine WL.want rfl (WL1.give rfl (g_move rfl (.mk (v := .tuple _) rfl rfl)) ?_)
        refine WL.want rfl (WL1.give rfl (g_extract rfl (.mk rfl rfl) rfl) ?_)
        refine WL.want rfl (WL1.give rfl (g_extract rfl (.mk rfl rfl) rfl) ?_)
        refine WL.want rfl (WL1.give rfl (g_extract rfl (.mk rfl rfl) rfl) ?_)
        refine WL.want rfl (WL1.give rfl (g_assign rfl (.mk (v := .slice _ _ _) rfl rfl)) ?_)
        refine WL.want rfl (WL1.give rfl (g_assign rfl (.mk (v := .slice _ _ _) rfl rfl)) ?_)
        refine WL.want rfl (WL1.give rfl (g_assign rfl (.mk (v := .int _ _) rfl rfl)) ?_)
        refine WL.nil ?_
        (refine hK _ _ ?_; clear hK)
        (refine WC.seq ?_; intro K hK)
        (refine WC.seq ?_; intro K hK)
        refine WC.region rfl ?_
        refine WL.want rfl (WL1.give rfl (g_move rfl (.mk (v := .slice _ _ _) rfl rfl)) ?_)
        refine WL.want rfl (WL1.callP rfl rfl rfl (.cons (.mk (v := .slice _ _ _) rfl rfl) .nil) (fun w hw => va w hw.1) ?_)
        refine WL.want rfl (WL1.give rfl (g_notT rfl (.mk rfl rfl)) ?_)
        refine WL.nil ?_
        (refine hK _ _ ?_; clear hK)
        refine WC.cond_false (.mk rfl rfl) ?_
        refine WC.skip ?_
        (refine hK _ _ ?_; clear hK)
        (refine WC.seq ?_; intro K hK)
        refine WC.region rfl ?_
        refine WL.want rfl (WL1.give rfl (g_move rfl (.mk (v := .slice _ _ _) rfl rfl)) ?_)
        (refine WL.want rfl (WL1.callN rfl rfl rfl (.cons (.mk (v := .slice _ _ _) rfl rfl) .nil) (fun w hw => hin w hw.1) ?_); rintro _ _ ⟨A2, c2, rfl, rfl⟩)
        refine WL.want rfl (WL1.give rfl (g_assign rfl (.mk (v := .slice _ _ _) rfl rfl)) ?_)
        refine WL.nil ?_
        (refine hK _ _ ?_; clear hK)
        (refine WC.seq ?_; intro K hK)
        (refine WC.seq ?_; intro K hK)
        refine WC.region rfl ?_
        refine WL.want rfl (WL1.give rfl (g_move rfl (.mk (v := .slice _ _ _) rfl rfl)) ?_)
        refine WL.want rfl (WL1.give rfl (g_len rfl (.mk rfl rfl) rfl) ?_)
        refine WL.want rfl (WL1.give rfl (g_move rfl (.mk (v := .slice _ _ _) rfl rfl)) ?_)
        refine WL.want rfl (WL1.give rfl (g_indexAddr (sz := 1) rfl (.mk rfl rfl) (.mk rfl rfl) rfl rfl (show _ = ((0 : Nat) : Int) from rfl) (by omega) (fun _ _ => sl_some hs (by omega))) ?_)
        refine WL.want rfl (WL1.give rfl (g_load rfl (.mk rfl rfl) rfl (rd_sl hs (get1 (by omega)))) ?_)
        refine WL.want rfl (WL1.give rfl (g_len rfl (.mk rfl rfl) rfl) ?_)
        refine WL.want rfl (WL1.give rfl (g_lt rfl (.mk rfl rfl) (.mk rfl rfl) (decide_eq_true (by omega))) ?_)
        refine WL.nil ?_
        (refine hK _ _ ?_; clear hK)
        refine WC.cond_true (.mk rfl rfl) ?_
        (refine WC.seq ?_; intro K hK)
        refine WC.region rfl ?_
        refine WL.want rfl (WL1.give rfl (g_move rfl (.mk (v := .int _ _) rfl rfl)) ?_)
        refine WL.want rfl (WL1.give rfl (g_eq rfl (.mk rfl rfl) (.mk rfl rfl) (decide_eq_true (by omega))) ?_)
        refine WL.want rfl (WL1.give rfl (g_move rfl (.mk (v := .bool _) rfl rfl)) ?_)
        refine WL.wantG rfl rfl rfl rfl (WL1.give rfl (g_move rfl (.mk (v := .slice _ _ _) rfl rfl)) ?_)
        refine WL.wantG rfl rfl rfl rfl (WL1.give rfl (g_len rfl (.mk rfl rfl) rfl) ?_)
        refine WL.wantG rfl rfl rfl rfl (WL1.give rfl (g_eq rfl (.mk rfl rfl) (.mk rfl rfl) (decide_eq_true (by omega))) ?_)
        refine WL.want rfl (WL1.give rfl (g_pickT rfl (.mk rfl rfl) (.mk (v := .bool _) rfl rfl)) ?_)
        refine WL.want rfl (WL1.give rfl (g_move rfl (.mk (v := .bool _) rfl rfl)) ?_)
        refine WL.wantG rfl rfl rfl rfl (WL1.give rfl (g_move rfl (.mk (v := .slice _ _ _) rfl rfl)) ?_)
        refine WL.wantG rfl rfl rfl rfl (WL1.give rfl (g_len rfl (.mk rfl rfl) rfl) ?_)
        refine WL.wantG rfl rfl rfl rfl (WL1.give rfl (g_eq rfl (.mk rfl rfl) (.mk rfl rfl) (decide_eq_true (by omega))) ?_)
        refine WL.want rfl (WL1.give rfl (g_pickT rfl (.mk rfl rfl) (.mk (v := .bool _) rfl rfl)) ?_)
        refine WL.want rfl (WL1.give rfl (g_assign rfl (.mk (v := .bool _) rfl rfl)) ?_)
        refine WL.nil ?_
        (refine hK _ _ ?_; clear hK)
        refine WC.ret ?_
        exact fun w' hw' => ⟨rfl, hw'.1⟩
      · have hnl : sel.length = (nth m 0).l.length := by omega
        obtain ⟨v, hv⟩ := hls hnl
        have shr : Shp (rowsM (els m) sel) sel.length sel.length := ⟨rowsM_len _ _, fun i hi => by rw [rowsM_at hi, hnl]; exact hrows _ (by rw [els_len]; exact hselm i hi)⟩
        obtain ⟨e1, e2⟩ := inv_mul shr (by omega) hv
        have hsv := (invM_some shr hv).1
        have iN := fun w' hb => hlN v w' hb hnl hv
        have fact : ∀ r : List Row, els r = v → r.length = sel.length → Good (els r) ∧ (nth r 0).l.length = sel.length ∧ (∀ i, i < r.length → (nth r i).l.length = sel.length) := fun r hr hl => by
          have hs : Shp (els r) sel.length sel.length := by rw [hr]; exact hsv
          exact ⟨hs.good (by omega) (by omega) (by omega) (by omega), by rw [← els_at (by omega)]; exact hs.2 0 (by omega), fun i hi => by rw [← els_at hi]; exact hs.2 i (by omega)⟩
        have factR : ∀ r : List Row, els r = rowsM (els m) sel → r.length = sel.length → ∀ i, i < r.length → (nth r i).l.length = sel.length := fun r hr hl i hi => by
          rw [← els_at hi, hr]; exact shr.2 i (by omega)
        refine calls_wc (args := [.slice A m.length c]) [2] [] Try.func4 rfl Try.ntmps4 rfl rfl rfl rfl (H.refl w) ?_
        (refine WC.seq ?_; intro K hK)
        refine WC.region rfl ?_
        refine WL.want rfl (WL1.give rfl (g_assign rfl (.mk (v := .bool _) rfl rfl)) ?_)
        refine WL.nil ?_
        (refine hK _ _ ?_; clear hK)
        (refine WC.seq ?_; intro K hK)
        (refine WC.seq ?_; intro K hK)
        refine WC.region rfl ?_
        refine WL.want rfl (WL1.callP rfl rfl rfl .nil (fun w hw => awake_e w) ?_)
        refine WL.want rfl (WL1.give rfl (g_notT rfl (.mk rfl rfl)) ?_)
        refine WL.nil ?_
        (refine hK _ _ ?_; clear hK)
        refine WC.cond_false (.mk rfl rfl) ?_
        refine WC.skip ?_
        (refine hK _ _ ?_; clear hK)
        (refine WC.seq ?_; intro K hK)
        (refine WC.seq ?_; intro K hK)
        refine WC.region rfl ?_
        refine WL.want rfl (WL1.give rfl (g_move rfl (.mk (v := .slice _ _ _) rfl rfl)) ?_)
        refine WL.want rfl (WL1.callP rfl rfl rfl (.cons (.mk (v := .slice _ _ _) rfl rfl) .nil) (fun w hw => sa w hw.1) ?_)
        refine WL.want rfl (WL1.give rfl (g_notT rfl (.mk rfl rfl)) ?_)
        refine WL.nil ?_
        (refine hK _ _ ?_; clear hK)
        refine WC.cond_false (.mk rfl rfl) ?_
        refine WC.skip ?_
        (refine hK _ _ ?_; clear hK)
        (refine WC.seq ?_; intro K hK)
        refine WC.region rfl ?_
        refine WL.want rfl (WL1.give rfl (g_move rfl (.mk (v := .slice _ _ _) rfl rfl)) ?_)
        (refine WL.want rfl (WL1.callN rfl rfl rfl (.cons (.mk (v := .slice _ _ _) rfl rfl) .nil) (fun w hw => iN w hw.1) ?_); rintro _ _ ⟨A1, c1, r1, Ai, ci, rfl, rfl, hr1, hl1⟩)
        refine WL.want rfl (WL1.give rfl (g_move rfl (.mk (v := .tuple _) rfl rfl)) ?_)
        refine WL.want rfl (WL1.give rfl (g_extract rfl (.mk rfl rfl) rfl) ?_)
        refine WL.want rfl (WL1.give rfl (g_extract rfl (.mk rfl rfl) rfl) ?_)
        refine WL.want rfl (WL1.give rfl (g_extract rfl (.mk rfl rfl) rfl) ?_)
        refine WL.want rfl (WL1.give rfl (g_assign rfl (.mk (v := .slice _ _ _) rfl rfl)) ?_)
        refine WL.want rfl (WL1.give rfl (g_assign rfl (.mk (v := .slice _ _ _) rfl rfl)) ?_)
        refine WL.want rfl (WL1.give rfl (g_assign rfl (.mk (v := .int _ _) rfl rfl)) ?_)
        refine WL.nil ?_
        (refine hK _ _ ?_; clear hK)
        (refine WC.seq ?_; intro K hK)
        (refine WC.seq ?_; intro K hK)
        refine WC.region rfl ?_
        refine WL.want rfl (WL1.give rfl (g_move rfl (.mk (v := .slice _ _ _) rfl rfl)) ?_)
        refine WL.want rfl (WL1.callP rfl rfl rfl (.cons (.mk (v := .slice _ _ _) rfl rfl) .nil) (fun w hw => va w hw.1) ?_)
        refine WL.want rfl (WL1.give rfl (g_notT rfl (.mk rfl rfl)) ?_)
        refine WL.nil ?_
        (refine hK _ _ ?_; clear hK)
        refine WC.cond_false (.mk rfl rfl) ?_
        refine WC.skip ?_
        (refine hK _ _ ?_; clear hK)
        (refine WC.seq ?_; intro K hK)
        refine WC.region rfl ?_
        refine WL.want rfl (WL1.give rfl (g_move rfl (.mk (v := .slice _ _ _) rfl rfl)) ?_)
        (refine WL.want rfl (WL1.callN rfl rfl rfl (.cons (.mk (v := .slice _ _ _) rfl rfl) .nil) (fun w hw => hin w hw.1) ?_); rintro _ _ ⟨A2, c2, rfl, rfl⟩)
        refine WL.want rfl (WL1.give rfl (g_assign rfl (.mk (v := .slice _ _ _) rfl rfl)) ?_)
        refine WL.nil ?_
        (refine hK _ _ ?_; clear hK)
        (refine WC.seq ?_; intro K hK)
        (refine WC.seq ?_; intro K hK)
        refine WC.region rfl ?_
        refine WL.want rfl (WL1.give rfl (g_move rfl (.mk (v := .slice _ _ _) rfl rfl)) ?_)
        refine WL.want rfl (WL1.give rfl (g_len rfl (.mk rfl rfl) rfl) ?_)
        refine WL.want rfl (WL1.give rfl (g_move rfl (.mk (v := .slice _ _ _) rfl rfl)) ?_)
        refine WL.want rfl (WL1.give rfl (g_indexAddr (sz := 1) rfl (.mk rfl rfl) (.mk rfl rfl) rfl rfl (show _ = ((0 : Nat) : Int) from rfl) (by omega) (fun _ _ => sl_some hs (by omega))) ?_)
        refine WL.want rfl (WL1.give rfl (g_load rfl (.mk rfl rfl) rfl (rd_sl hs (get1 (by omega)))) ?_)
        refine WL.want rfl (WL1.give rfl (g_len rfl (.mk rfl rfl) rfl) ?_)
        refine WL.want rfl (WL1.give rfl (g_lt rfl (.mk rfl rfl) (.mk rfl rfl) (decide_eq_false (by omega))) ?_)
        refine WL.nil ?_
        (refine hK _ _ ?_; clear hK)
        refine WC.cond_false (.mk rfl rfl) ?_
        refine WC.skip ?_
        (refine hK _ _ ?_; clear hK)
        obtain ⟨f1, f2, f3⟩ := fact r1 hr1 hl1
        (refine WC.seq ?_; intro K hK)
        refine WC.region rfl ?_
        refine WL.want rfl (WL1.give rfl (g_move rfl (.mk (v := .int _ _) rfl rfl)) ?_)
        refine WL.want rfl (WL1.give rfl (g_eq rfl (.mk rfl rfl) (.mk rfl rfl) (decide_eq_true (by omega))) ?_)
        refine WL.want rfl (WL1.give rfl (g_move rfl (.mk (v := .bool _) rfl rfl)) ?_)
        refine WL.wantG rfl rfl rfl rfl (WL1.give rfl (g_move rfl (.mk (v := .slice _ _ _) rfl rfl)) ?_)
        refine WL.wantG rfl rfl rfl rfl (WL1.give rfl (g_move rfl (.mk (v := .slice _ _ _) rfl rfl)) ?_)
        refine WL.wantG rfl rfl rfl rfl (WL1.callP rfl rfl rfl (.cons (.mk (v := .slice _ _ _) rfl rfl) (.cons (.mk (v := .slice _ _ _) rfl rfl) .nil)) (fun w hw => sameints_t _ _ sel sel w (Sl.of_vec hw (by repeat (first | exact .head _ | apply List.Mem.tail))) (Sl.of_vec hw (by repeat (first | exact .head _ | apply List.Mem.tail))) rfl) ?_)
        refine WL.want rfl (WL1.give rfl (g_pickT rfl (.mk rfl rfl) (.mk (v := .bool _) rfl rfl)) ?_)
        refine WL.want rfl (WL1.give rfl (g_move rfl (.mk (v := .bool _) rfl rfl)) ?_)
        refine WL.wantG rfl rfl rfl rfl (WL1.give rfl (g_move rfl (.mk (v := .slice _ _ _) rfl rfl)) ?_)
        refine WL.wantG rfl rfl rfl rfl (WL1.callP rfl rfl rfl (.cons (.mk (v := .slice _ _ _) rfl rfl) .nil) (fun w hw => rvalid_t (MatAt.of_rowsA hw (by repeat (first | exact .head _ | apply List.Mem.tail)) (by repeat (first | exact .head _ | apply List.Mem.tail))) f1) ?_)
        refine WL.want rfl (WL1.give rfl (g_pickT rfl (.mk rfl rfl) (.mk (v := .bool _) rfl rfl)) ?_)
        refine WL.want rfl (WL1.give rfl (g_move rfl (.mk (v := .bool _) rfl rfl)) ?_)
        refine WL.wantG rfl rfl rfl rfl (WL1.give rfl (g_move rfl (.mk (v := .slice _ _ _) rfl rfl)) ?_)
        refine WL.wantG rfl rfl rfl rfl (WL1.give rfl (g_len rfl (.mk rfl rfl) rfl) ?_)
        refine WL.wantG rfl rfl rfl rfl (WL1.give rfl (g_move rfl (.mk (v := .slice _ _ _) rfl rfl)) ?_)
        refine WL.wantG rfl rfl rfl rfl (WL1.give rfl (g_len rfl (.mk rfl rfl) rfl) ?_)
        refine WL.wantG rfl rfl rfl rfl (WL1.give rfl (g_eq rfl (.mk rfl rfl) (.mk rfl rfl) (decide_eq_true (by omega))) ?_)
        refine WL.want rfl (WL1.give rfl (g_pickT rfl (.mk rfl rfl) (.mk (v := .bool _) rfl rfl)) ?_)
        refine WL.want rfl (WL1.give rfl (g_move rfl (.mk (v := .bool _) rfl rfl)) ?_)
        refine WL.wantG rfl rfl rfl rfl (WL1.give rfl (g_move rfl (.mk (v := .slice _ _ _) rfl rfl)) ?_)
        refine WL.wantG rfl rfl rfl rfl (WL1.give rfl (g_indexAddr (sz := 1) rfl (.mk rfl rfl) (.mk rfl rfl) rfl rfl (show _ = ((0 : Nat) : Int) from rfl) (by omega) (fun w hw => vec_some hw (.tail _ (.head _)) (by omega))) ?_)
        refine WL.wantG rfl rfl rfl rfl (WL1.give rfl (g_load rfl (.mk rfl rfl) rfl (rd_vec (.tail _ (.head _)) (get1 (by omega)))) ?_)
        refine WL.wantG rfl rfl rfl rfl (WL1.give rfl (g_len rfl (.mk rfl rfl) rfl) ?_)
        refine WL.wantG rfl rfl rfl rfl (WL1.give rfl (g_move rfl (.mk (v := .slice _ _ _) rfl rfl)) ?_)
        refine WL.wantG rfl rfl rfl rfl (WL1.give rfl (g_len rfl (.mk rfl rfl) rfl) ?_)
        refine WL.wantG rfl rfl rfl rfl (WL1.give rfl (g_eq rfl (.mk rfl rfl) (.mk rfl rfl) (decide_eq_true (by omega))) ?_)
        refine WL.want rfl (WL1.give rfl (g_pickT rfl (.mk rfl rfl) (.mk (v := .bool _) rfl rfl)) ?_)
        refine WL.want rfl (WL1.give rfl (g_move rfl (.mk (v := .bool _) rfl rfl)) ?_)
        refine WL.wantG rfl rfl rfl rfl (WL1.give rfl (g_move rfl (.mk (v := .slice _ _ _) rfl rfl)) ?_)
        refine WL.wantG rfl rfl rfl rfl (WL1.give rfl (g_move rfl (.mk (v := .slice _ _ _) rfl rfl)) ?_)
        refine WL.wantG rfl rfl rfl rfl (WL1.give rfl (g_move rfl (.mk (v := .slice _ _ _) rfl rfl)) ?_)
        (refine WL.wantG rfl rfl rfl rfl (WL1.callN rfl rfl rfl (.cons (.mk (v := .slice _ _ _) rfl rfl) (.cons (.mk (v := .slice _ _ _) rfl rfl) .nil)) (fun w hw => rrows_n _ _ m sel w (hmm.below hw.1) (Sl.of_vec hw (by repeat (first | exact .head _ | apply List.Mem.tail))) hselm (by omega) (fun i hi => by rw [hg.row hi]; omega)) ?_); rintro _ _ ⟨A3, c3, r3, rfl, rfl, hr3, hl3⟩)
        (refine WL.wantG rfl rfl rfl rfl (WL1.callN rfl rfl rfl (.cons (.mk (v := .slice _ _ _) rfl rfl) (.cons (.mk (v := .slice _ _ _) rfl rfl) .nil)) (fun w hw => rmul_n _ _ r1 r3 sel.length w (MatAt.of_rowsA hw (by repeat (first | exact .head _ | apply List.Mem.tail)) (by repeat (first | exact .head _ | apply List.Mem.tail))) (MatAt.of_rowsA hw (by repeat (first | exact .head _ | apply List.Mem.tail)) (by repeat (first | exact .head _ | apply List.Mem.tail))) (fun i hi => by rw [f3 i hi, hl3]) (factR r3 hr3 hl3) (by omega) (by omega) (by omega) (by omega)) ?_); rintro _ _ ⟨A4, c4, r4, rfl, rfl, hr4, hl4⟩)
        refine WL.wantG rfl rfl rfl rfl (WL1.give rfl (g_move rfl (.mk (v := .slice _ _ _) rfl rfl)) ?_)
        refine WL.wantG rfl rfl rfl rfl (WL1.give rfl (g_len rfl (.mk rfl rfl) rfl) ?_)
        (refine WL.wantG rfl rfl rfl rfl (WL1.callN rfl rfl rfl (.cons (.mk (v := .int _ _) rfl rfl) .nil) (fun w hw => ridentity_n sel.length w (by omega)) ?_); rintro _ _ ⟨A5, c5, r5, rfl, rfl, hr5⟩)
        refine WL.wantG rfl rfl rfl rfl (WL1.callP rfl rfl rfl (.cons (.mk (v := .slice _ _ _) rfl rfl) (.cons (.mk (v := .slice _ _ _) rfl rfl) .nil)) (fun w hw => msame_t _ _ r4 r5 w (MatAt.of_rowsA hw (by repeat (first | exact .head _ | apply List.Mem.tail)) (by repeat (first | exact .head _ | apply List.Mem.tail))) (MatAt.of_rowsA hw (by repeat (first | exact .head _ | apply List.Mem.tail)) (by repeat (first | exact .head _ | apply List.Mem.tail))) (by rw [hr4, hr5, hr1, hr3]; exact e1)) ?_)
        refine WL.want rfl (WL1.give rfl (g_pickT rfl (.mk rfl rfl) (.mk (v := .bool _) rfl rfl)) ?_)
        refine WL.want rfl (WL1.give rfl (g_assign rfl (.mk (v := .bool _) rfl rfl)) ?_)
        refine WL.nil ?_
        (refine hK _ _ ?_; clear hK)
        refine WC.ret ?_
        exact fun w' hw' => ⟨rfl, hw'.1⟩
    · rw [goodB_no hg] at va
      refine calls_wc (args := [.slice A m.length c]) [2] [] Try.func4 rfl Try.ntmps4 rfl rfl rfl rfl (H.refl w) ?_
      (refine WC.seq ?_; intro K hK)
      refine WC.region rfl ?_
      refine WL.want rfl (WL1.give rfl (g_assign rfl (.mk (v := .bool _) rfl rfl)) ?_)
      refine WL.nil ?_
      (refine hK _ _ ?_; clear hK)
      (refine WC.seq ?_; intro K hK)
      (refine WC.seq ?_; intro K hK)
      refine WC.region rfl ?_
      refine WL.want rfl (WL1.callP rfl rfl rfl .nil (fun w hw => awake_e w) ?_)
      refine WL.want rfl (WL1.give rfl (g_notT rfl (.mk rfl rfl)) ?_)
      refine WL.nil ?_
      (refine hK _ _ ?_; clear hK)
      refine WC.cond_false (.mk rfl rfl) ?_
      refine WC.skip ?_
      (refine hK _ _ ?_; clear hK)
      (refine WC.seq ?_; intro K hK)
      (refine WC.seq ?_; intro K hK)
      refine WC.region rfl ?_
      refine WL.want rfl (WL1.give rfl (g_move rfl (.mk (v := .slice _ _ _) rfl rfl)) ?_)
      refine WL.want rfl (WL1.callP rfl rfl rfl (.cons (.mk (v := .slice _ _ _) rfl rfl) .nil) (fun w hw => sa w hw.1) ?_)
      refine WL.want rfl (WL1.give rfl (g_notT rfl (.mk rfl rfl)) ?_)
      refine WL.nil ?_
      (refine hK _ _ ?_; clear hK)
      refine WC.cond_false (.mk rfl rfl) ?_
      refine WC.skip ?_
      (refine hK _ _ ?_; clear hK)
      (refine WC.seq ?_; intro K hK)
      refine WC.region rfl ?_
      refine WL.want rfl (WL1.give rfl (g_move rfl (.mk (v := .slice _ _ _) rfl rfl)) ?_)
      refine WL.want rfl (WL1.callP rfl rfl rfl (.cons (.mk (v := .slice _ _ _) rfl rfl) .nil) (fun w hw => leftInverse_bad _ m w (hmm.below hw.1) hg) ?_)
      refine WL.want rfl (WL1.give rfl (g_move rfl (.mk (v := .tuple _) rfl rfl)) ?_)
      refine WL.want rfl (WL1.give rfl (g_extract rfl (.mk rfl rfl) rfl) ?_)
      refine WL.want rfl (WL1.give rfl (g_extract rfl (.mk rfl rfl) rfl) ?_)
      refine WL.want rfl (WL1.give rfl (g_extract rfl (.mk rfl rfl) rfl) ?_)
      refine WL.want rfl (WL1.give rfl (g_assign rfl (.mk (v := .slice _ _ _) rfl rfl)) ?_)
      refine WL.want rfl (WL1.give rfl (g_assign rfl (.mk (v := .slice _ _ _) rfl rfl)) ?_)
      refine WL.want rfl (WL1.give rfl (g_assign rfl (.mk (v := .int _ _) rfl rfl)) ?_)
      refine WL.nil ?_
      (refine hK _ _ ?_; clear hK)
      (refine WC.seq ?_; intro K hK)
      (refine WC.seq ?_; intro K hK)
      refine WC.region rfl ?_
      refine WL.want rfl (WL1.give rfl (g_move rfl (.mk (v := .slice _ _ _) rfl rfl)) ?_)
      refine WL.want rfl (WL1.callP rfl rfl rfl (.cons (.mk (v := .slice _ _ _) rfl rfl) .nil) (fun w hw => va w hw.1) ?_)
      refine WL.want rfl (WL1.give rfl (g_notF rfl (.mk rfl rfl)) ?_)
      refine WL.nil ?_
      (refine hK _ _ ?_; clear hK)
      refine WC.cond_true (.mk rfl rfl) ?_
      (refine WC.seq ?_; intro K hK)
      refine WC.region rfl ?_
      refine WL.want rfl (WL1.give rfl (g_move rfl (.mk (v := .int _ _) rfl rfl)) ?_)
      refine WL.want rfl (WL1.give rfl (g_eq rfl (.mk rfl rfl) (.mk rfl rfl) (decide_eq_true (by omega))) ?_)
      refine WL.want rfl (WL1.give rfl (g_move rfl (.mk (v := .bool _) rfl rfl)) ?_)
      refine WL.wantG rfl rfl rfl rfl (WL1.give rfl (g_move rfl (.mk (v := .slice _ _ _) rfl rfl)) ?_)
      refine WL.wantG rfl rfl rfl rfl (WL1.give rfl (g_len rfl (.mk rfl rfl) rfl) ?_)
      refine WL.wantG rfl rfl rfl rfl (WL1.give rfl (g_eq rfl (.mk rfl rfl) (.mk rfl rfl) (decide_eq_true (by omega))) ?_)
      refine WL.want rfl (WL1.give rfl (g_pickT rfl (.mk rfl rfl) (.mk (v := .bool _) rfl rfl)) ?_)
      refine WL.want rfl (WL1.give rfl (g_move rfl (.mk (v := .bool _) rfl rfl)) ?_)
      refine WL.wantG rfl rfl rfl rfl (WL1.give rfl (g_move rfl (.mk (v := .slice _ _ _) rfl rfl)) ?_)
      refine WL.wantG rfl rfl rfl rfl (WL1.give rfl (g_len rfl (.mk rfl rfl) rfl) ?_)
      refine WL.wantG rfl rfl rfl rfl (WL1.give rfl (g_eq rfl (.mk rfl rfl) (.mk rfl rfl) (decide_eq_true (by omega))) ?_)
      refine WL.want rfl (WL1.give rfl (g_pickT rfl (.mk rfl rfl) (.mk (v := .bool _) rfl rfl)) ?_)
      refine WL.want rfl (WL1.give rfl (g_assign rfl (.mk (v := .bool _) rfl rfl)) ?_)
      refine WL.nil ?_
      (refine hK _ _ ?_; clear hK)
      refine WC.ret ?_
      exact fun w' hw' => ⟨rfl, hw'.1⟩
  · rw [decide_eq_false h1] at sa
    refine calls_wc (args := [.slice A m.length c]) [2] [] Try.func4 rfl Try.ntmps4 rfl rfl rfl rfl (H.refl w) ?_
    (refine WC.seq ?_; intro K hK)
    refine WC.region rfl ?_
    refine WL.want rfl (WL1.give rfl (g_assign rfl (.mk (v := .bool _) rfl rfl)) ?_)
    refine WL.nil ?_
    (refine hK _ _ ?_; clear hK)
    (refine WC.seq ?_; intro K hK)
    (refine WC.seq ?_; intro K hK)
    refine WC.region rfl ?_
    refine WL.want rfl (WL1.callP rfl rfl rfl .nil (fun w hw => awake_e w) ?_)
    refine WL.want rfl (WL1.give rfl (g_notT rfl (.mk rfl rfl)) ?_)
    refine WL.nil ?_
    (refine hK _ _ ?_; clear hK)
    refine WC.cond_false (.mk rfl rfl) ?_
    refine WC.skip ?_
    (refine hK _ _ ?_; clear hK)
    (refine WC.seq ?_; intro K hK)
    (refine WC.seq ?_; intro K hK)
    refine WC.region rfl ?_
    refine WL.want rfl (WL1.give rfl (g_move rfl (.mk (v := .slice _ _ _) rfl rfl)) ?_)
    refine WL.want rfl (WL1.callP rfl rfl rfl (.cons (.mk (v := .slice _ _ _) rfl rfl) .nil) (fun w hw => sa w hw.1) ?_)
    refine WL.want rfl (WL1.give rfl (g_notF rfl (.mk rfl rfl)) ?_)
    refine WL.nil ?_
    (refine hK _ _ ?_; clear hK)
    refine WC.cond_true (.mk rfl rfl) ?_
    (refine WC.seq ?_; intro K hK)
    refine WC.region rfl ?_
    refine WL.want rfl (WL1.give rfl (g_assign rfl (.mk (v := .bool _) rfl rfl)) ?_)
    refine WL.nil ?_
    (refine hK _ _ ?_; clear hK)
    refine WC.ret ?_
    exact fun w' hw' => ⟨rfl, hw'.1⟩

set_option maxRecDepth 100000 in
theorem lifted (os : Os) (started : os.Started) (H : Type) (enc : TypeId × Value → H) :
    ReturnsInHanded {} Try.checked os 4 .any (Rows.gfmatrixLeftInverseSpec.pre6 enc Try.prog Try.f4 Rows.gfmatrixLeftInverseRow.domain false) (Rows.gfmatrixLeftInverseSpec.post enc Try.prog Try.f4 false true false false) := by
  refine returnsInHanded_of_change (C := Try.checked) own started (by kernel_rfl) Try.func4
    (ChangeSpec.witness6 (enc := enc) (C := Try.checked) false ⟨#[], #[.slice none 0 0], []⟩ 8 (by kernel_rfl) (by kernel_rfl) (by kernel_rfl) (by kernel_rfl)) ?_
  intro W base args ds gs before hval0 hW _ _
  have hval : ∀ (j : Nat) t v, Try.f4.params[j]? = some t → args[j]? = some v → Value.okWide Try.prog W .any base t v := hval0
  have hW' := hW
  obtain ⟨p, q, hA0, hV, rfl, hfz, hnd⟩ := hW
  have hA : DataW.TrodAll enc Try.prog W 0 (fun _ => true) true Try.f4.params.toList args.toList ds p := hA0
  rw [Try.params4] at hA hval
  obtain ⟨v0, vs0, d0, ds0, p0, q0, hargs, rfl, rfl, h0, r0⟩ := trodAll_cons hA
  obtain ⟨rfl, rfl, rfl⟩ := trodAll_nil r0
  obtain rfl : args = #[v0] := by cases args; simp_all
  obtain ⟨m, mm⟩ := open_mat (hval 0 22 v0 rfl rfl) h0
  refine (walk (w := W) v0 m mm).mono fun e W' ⟨he, hb⟩ => ?_
  subst he
  exact ⟨_, rfl, law_post laidOut (by kernel_rfl) rfl rfl Try.underlying4 (fun ds h => by match ds, h with | [_], _ => rfl) hW' hb⟩

theorem proved : Rows.GfmatrixLeftInverseSaid :=
  OpenClaim.holds_of_wide 4 Try.f4 rfl rfl rfl rfl rfl rfl rfl ⟨rfl, rfl, rfl, rfl, rfl⟩ rfl rfl rfl rfl rfl (by kernel_rfl) Try.func4 (by kernel_rfl)
    (of_decide_eq_true (by kernel_rfl)) (by unfold Func.isWrapper; first | (rw [if_pos (by decide +kernel)]; kernel_rfl) | (rw [if_neg (by decide +kernel)]; exact ⟨rfl, rfl⟩))
    (fun os started H enc _ => lifted os started H enc)
end Go.Proofs.Ytlkemgefioiffaa.LGfmatrixLeftInverse
