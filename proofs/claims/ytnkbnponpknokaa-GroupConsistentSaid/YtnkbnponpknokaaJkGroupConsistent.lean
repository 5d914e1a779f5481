/- GroupConsistent answers true, whatever the data, the changes and the width: Zero and the results of Apply are consistent, changes of different pieces can be made in any order. No condition. -/
import Derived.Test.YtnkbnponpknokaaJk3
namespace Go.Proofs.Ytnkbnponpknokaa.LGroupConsistent
open Go.RowKit Go.WideShapes Go.ChangeShapes Go.ChangeAt
attribute [local irreducible] Calls

theorem slE {w : World} {sz a b : Nat} {v : Value} {xs : List Value} (e : a = b) (h : Sl w sz v a xs) : Sl w sz v b xs := by subst e; exact h
theorem cvs_one_at {l : List Chg} {i : Nat} (h : i < l.length) : ((cvs l).drop (i * 9)).take ((i + 1 - i) * 9) = cvs [nth l i] := by
  have h1 : l = l.take i ++ (nth l i :: l.drop (i + 1)) := by rw [← drop_nth h, List.take_append_drop]
  have h2 : cvs l = cvs (l.take i) ++ (cvs [nth l i] ++ cvs (l.drop (i + 1))) := by
    conv => lhs; rw [h1]
    rw [show nth l i :: l.drop (i + 1) = [nth l i] ++ l.drop (i + 1) from rfl]
    unfold cvs
    rw [List.flatMap_append, List.flatMap_append]
  have h3 : (cvs (l.take i)).length = i * 9 := by rw [cvs_len, List.length_take]; congr 1; omega
  have h4 : (cvs [nth l i]).length = (i + 1 - i) * 9 := by rw [cvs_len, show i + 1 - i = 1 from by omega]; rfl
  rw [h2, List.drop_left' h3, List.take_left' h4]
set_option maxRecDepth 20000 in
set_option maxHeartbeats 4000000 in
theorem walk (w : World) (vp : Value) (ds : List Blk) (hp : Sl w 8 vp ds.length (kvs ds)) (vl : Value) (l : List Chg) (hl : Sl w 9 vl l.length (cvs l)) (_lr : ∀ x ∈ l, x.ok) (m : Int) (_mlo : -9223372036854775808 ≤ m) (_mhi : m ≤ 9223372036854775807) :
    Calls Try.prog 4 #[vp, vl, iv m] w fun en w' => en = .returned (.bool true) ∧ Below w.heap.size w w' := by
  obtain ⟨A, c, rfl, hc, hm, hs⟩ := hp.open_
  obtain ⟨B, d, rfl, hcd, hmd, hsb⟩ := hl.open_
  by_cases h20 : 20 < l.length
  · refine calls_wc (args := [.slice A ds.length c, .slice B l.length d, iv m]) [6] [] Try.func4 rfl Try.ntmps4 rfl rfl rfl rfl (H.refl _) ?_
    (refine WC.seq ?_; intro K hK)
    refine WC.region rfl ?_
    refine WL.want rfl (WL1.give rfl (g_assign rfl (.mk (v := .bool _) rfl rfl)) ?_)
    refine WL.nil ?_
    (refine hK _ _ ?_; clear hK)
    (refine WC.seq ?_; intro K hK)
    (refine WC.seq ?_; intro K hK)
    refine WC.region rfl ?_
    refine WL.want rfl (WL1.callP rfl rfl rfl .nil (fun w hw => awake_e w) ?_)
    refine WL.want rfl (WL1.give rfl (g_notT rfl (.mk rfl rfl)) ?_)
    refine WL.nil ?_
    (refine hK _ _ ?_; clear hK)
    refine WC.cond_false (.mk rfl rfl) ?_
    refine WC.skip ?_
    (refine hK _ _ ?_; clear hK)
    (refine WC.seq ?_; intro K hK)
    (refine WC.seq ?_; intro K hK)
    refine WC.region rfl ?_
    refine WL.want rfl (WL1.give rfl (g_move rfl (.mk (v := .slice _ _ _) rfl rfl)) ?_)
    refine WL.want rfl (WL1.give rfl (g_len rfl (.mk rfl rfl) rfl) ?_)
    refine WL.want rfl (WL1.give rfl (g_gt rfl (.mk rfl rfl) (.mk rfl rfl) (decide_eq_true (by omega))) ?_)
    refine WL.nil ?_
    (refine hK _ _ ?_; clear hK)
    refine WC.cond_true (.mk rfl rfl) ?_
    (refine WC.seq ?_; intro K hK)
    refine WC.region rfl ?_
    refine WL.want rfl (WL1.give rfl (g_assign rfl (.mk (v := .bool _) rfl rfl)) ?_)
    refine WL.nil ?_
    (refine hK _ _ ?_; clear hK)
    refine WC.ret ?_
    exact fun w' hw' => ⟨rfl, hw'.1⟩
  · by_cases hz : 4 ≤ m ∧ m ≤ 16
    · obtain ⟨M, rfl⟩ : ∃ M : Nat, m = M := ⟨m.toNat, by omega⟩
      have hzn := fun w' => zero_n M w' (by omega) (by omega)
      have hzg : isGroup (List.replicate M (0 : Blk)) = true := group_zero M (by omega) (by omega)
      have hzc : ∀ w' v, Sl w' 8 v M (kvs (List.replicate M 0)) → Calls Try.prog 18 #[v] w' fun e w2 => e = .returned (.bool true) ∧ Below w'.heap.size w' w2 := fun w' v h => by
        have := rcheck_e v (List.replicate M 0) w' (by rw [List.length_replicate]; exact h) (by rw [List.length_replicate]; omega)
        rwa [hzg] at this
      have hM1 : 4 ≤ M := by omega
      have hM2 : M ≤ 16 := by omega
      have gz : ∀ t u, (0 : Blk).cells[t]? = some u → (kvs (List.replicate M (0 : Blk)))[0 * 8 + t]? = some u := fun t u h => by
        have h0 : nth (List.replicate M (0 : Blk)) 0 = 0 := by unfold nth; rw [List.getD_eq_getElem?_getD, List.getElem?_replicate, if_pos (by omega)]; rfl
        exact flat_row (l := List.replicate M (0 : Blk)) (k := 0) blk8 (by rw [List.length_replicate]; omega) t u (by rw [h0]; exact h)
      have E0 := blk_eq (a := (0 : Blk)) (b := 0) rfl
      clear hzg
      by_cases hd : 1 ≤ ds.length ∧ ds.length ≤ 13
      · obtain ⟨hd1, hd2⟩ := hd
        have hwh := fun w' hb => whole_n (.slice A ds.length c) ds w' (hs.below (w' := w') hb) hd1 hd2
        have hfr := fun w' hb => from_n (.slice B l.length d) l w' (hsb.below (w' := w') hb) (by omega)
        have hgl : (ds ++ enc ds).length = ds.length + 3 := by rw [List.length_append, enc3]
        have hgg : isGroup (ds ++ enc ds) = true := group_enc hd1 hd2
        cases ho : okC ((ds.length + 3 : Nat) : Int) l with
        | false =>
          have hap : ∀ w' v v2, Sl w' 8 v (ds.length + 3) (kvs (ds ++ enc ds)) → Sl w' 9 v2 l.length (cvs l) → Calls Try.prog 12 #[v, v2] w' fun e w2 => e = .returned (.tuple #[.slice none 0 0, .slice none 0 0, iv 1]) ∧ Below w'.heap.size w' w2 := fun w' v v2 h1 h2 => apply_bad v v2 (ds ++ enc ds) l w' (by rw [hgl]; exact h1) h2 (by omega) (fun q => by have := q.2; rw [hgl, ho] at this; exact absurd this Bool.false_ne_true)
          clear hgl hgg
          refine calls_wc (args := [.slice A ds.length c, .slice B l.length d, iv (M : Int)]) [6] [] Try.func4 rfl Try.ntmps4 rfl rfl rfl rfl (H.refl _) ?_
          (refine WC.seq ?_; intro K hK)
          refine WC.region rfl ?_
          refine WL.want rfl (WL1.give rfl (g_assign rfl (.mk (v := .bool _) rfl rfl)) ?_)
          refine WL.nil ?_
          (refine hK _ _ ?_; clear hK)
          (refine WC.seq ?_; intro K hK)
          (refine WC.seq ?_; intro K hK)
          refine WC.region rfl ?_
          refine WL.want rfl (WL1.callP rfl rfl rfl .nil (fun w hw => awake_e w) ?_)
          refine WL.want rfl (WL1.give rfl (g_notT rfl (.mk rfl rfl)) ?_)
          refine WL.nil ?_
          (refine hK _ _ ?_; clear hK)
          refine WC.cond_false (.mk rfl rfl) ?_
          refine WC.skip ?_
          (refine hK _ _ ?_; clear hK)
          (refine WC.seq ?_; intro K hK)
          (refine WC.seq ?_; intro K hK)
          refine WC.region rfl ?_
          refine WL.want rfl (WL1.give rfl (g_move rfl (.mk (v := .slice _ _ _) rfl rfl)) ?_)
          refine WL.want rfl (WL1.give rfl (g_len rfl (.mk rfl rfl) rfl) ?_)
          refine WL.want rfl (WL1.give rfl (g_gt rfl (.mk rfl rfl) (.mk rfl rfl) (decide_eq_false (by omega))) ?_)
          refine WL.nil ?_
          (refine hK _ _ ?_; clear hK)
          refine WC.cond_false (.mk rfl rfl) ?_
          refine WC.skip ?_
          (refine hK _ _ ?_; clear hK)
          (refine WC.seq ?_; intro K hK)
          refine WC.region rfl ?_
          refine WL.want rfl (WL1.give rfl (g_move rfl (.mk (v := .int _ _) rfl rfl)) ?_)
          (refine WL.want rfl (WL1.callN rfl rfl rfl (.cons (.mk (v := .int _ _) rfl rfl) .nil) (fun w hw => hzn w) ?_); rintro _ _ ⟨Az, cz, rfl, rfl⟩)
          refine WL.want rfl (WL1.give rfl (g_assign rfl (.mk (v := .slice _ _ _) rfl rfl)) ?_)
          refine WL.nil ?_
          (refine hK _ _ ?_; clear hK)
          (refine WC.seq ?_; intro K hK)
          (refine WC.seq ?_; intro K hK)
          refine WC.region rfl ?_
          refine WL.want rfl (WL1.give rfl (g_move rfl (.mk (v := .int _ _) rfl rfl)) ?_)
          refine WL.want rfl (WL1.give rfl (g_lt rfl (.mk rfl rfl) (.mk rfl rfl) (decide_eq_false (by omega))) ?_)
          refine WL.want rfl (WL1.give rfl (g_move rfl (.mk (v := .bool _) rfl rfl)) ?_)
          refine WL.wantG rfl rfl rfl rfl (WL1.give rfl (g_move rfl (.mk (v := .int _ _) rfl rfl)) ?_)
          refine WL.wantG rfl rfl rfl rfl (WL1.give rfl (g_gt rfl (.mk rfl rfl) (.mk rfl rfl) (decide_eq_false (by omega))) ?_)
          refine WL.want rfl (WL1.give rfl (g_pickF rfl (.mk rfl rfl) (.mk (v := .bool _) rfl rfl)) ?_)
          refine WL.nil ?_
          (refine hK _ _ ?_; clear hK)
          refine WC.cond_false (.mk rfl rfl) ?_
          (refine WC.seq ?_; intro K hK)
          refine WC.region rfl ?_
          refine WL.want rfl (WL1.give rfl (g_move rfl (.mk (v := .slice _ _ _) rfl rfl)) ?_)
          refine WL.want rfl (WL1.give rfl (g_len rfl (.mk rfl rfl) rfl) ?_)
          refine WL.want rfl (WL1.give rfl (g_move rfl (.mk (v := .int _ _) rfl rfl)) ?_)
          refine WL.want rfl (WL1.give rfl (g_ne rfl (.mk rfl rfl) (.mk rfl rfl) (decide_eq_false (by omega))) ?_)
          refine WL.want rfl (WL1.give rfl (g_move rfl (.mk (v := .bool _) rfl rfl)) ?_)
          refine WL.wantG rfl rfl rfl rfl (WL1.give rfl (g_move rfl (.mk (v := .slice _ _ _) rfl rfl)) ?_)
          refine WL.wantG rfl rfl rfl rfl (WL1.callP rfl rfl rfl (.cons (.mk (v := .slice _ _ _) rfl rfl) .nil) (fun w hw => hzc w _ (Sl.of_vec hw (.head _))) ?_)
          refine WL.wantG rfl rfl rfl rfl (WL1.give rfl (g_notT rfl (.mk rfl rfl)) ?_)
          refine WL.want rfl (WL1.give rfl (g_pickF rfl (.mk rfl rfl) (.mk (v := .bool _) rfl rfl)) ?_)
          refine WL.want rfl (WL1.give rfl (g_move rfl (.mk (v := .bool _) rfl rfl)) ?_)
          refine WL.wantG rfl rfl rfl rfl (WL1.give rfl (g_move rfl (.mk (v := .slice _ _ _) rfl rfl)) ?_)
          refine WL.wantG rfl rfl rfl rfl (WL1.give rfl (g_indexAddr (sz := 8) rfl (.mk rfl rfl) (.mk rfl rfl) rfl rfl (show _ = ((0 : Nat) : Int) from rfl) (by omega) (fun w hw => vec_some hw (.head _) (by omega))) ?_)
          refine WL.wantG rfl rfl rfl rfl (WL1.give rfl (g_loadA rfl (.mk rfl rfl) rfl rfl (rdr_vec (by repeat (first | exact .head _ | apply List.Mem.tail)) (by omega) gz)) ?_)
          refine WL.wantG rfl rfl rfl rfl (WL1.give rfl (g_buildArr (cs := [_, _, _, _, _, _, _, _]) rfl rfl rfl rfl rfl .nil rfl rfl rfl) ?_)
          refine WL.wantG rfl rfl rfl rfl (WL1.give rfl (g_ane (by kernel_rfl) rfl (.mk rfl rfl) (.mk rfl rfl) E0) ?_)
          refine WL.want rfl (WL1.give rfl (g_pickF rfl (.mk rfl rfl) (.mk (v := .bool _) rfl rfl)) ?_)
          refine WL.nil ?_
          (refine hK _ _ ?_; clear hK)
          refine WC.cond_false (.mk rfl rfl) ?_
          refine WC.skip ?_
          (refine hK _ _ ?_; clear hK)
          (refine WC.seq ?_; intro K hK)
          refine WC.region rfl ?_
          refine WL.want rfl (WL1.give rfl (g_move rfl (.mk (v := .slice _ _ _) rfl rfl)) ?_)
          (refine WL.want rfl (WL1.callN rfl rfl rfl (.cons (.mk (v := .slice _ _ _) rfl rfl) .nil) (fun w hw => hwh w hw.1) ?_); rintro _ _ ⟨Ap, cp, rfl, rfl⟩)
          refine WL.want rfl (WL1.give rfl (g_move rfl (.mk (v := .tuple _) rfl rfl)) ?_)
          refine WL.want rfl (WL1.give rfl (g_extract rfl (.mk rfl rfl) rfl) ?_)
          refine WL.want rfl (WL1.give rfl (g_extract rfl (.mk rfl rfl) rfl) ?_)
          refine WL.want rfl (WL1.give rfl (g_assign rfl (.mk (v := .slice _ _ _) rfl rfl)) ?_)
          refine WL.want rfl (WL1.give rfl (g_assign rfl (.mk (v := .bool _) rfl rfl)) ?_)
          refine WL.nil ?_
          (refine hK _ _ ?_; clear hK)
          (refine WC.seq ?_; intro K hK)
          (refine WC.seq ?_; intro K hK)
          refine WC.region rfl ?_
          refine WL.want rfl (WL1.give rfl (g_move rfl (.mk (v := .bool _) rfl rfl)) ?_)
          refine WL.want rfl (WL1.give rfl (g_notT rfl (.mk rfl rfl)) ?_)
          refine WL.nil ?_
          (refine hK _ _ ?_; clear hK)
          refine WC.cond_false (.mk rfl rfl) ?_
          refine WC.skip ?_
          (refine hK _ _ ?_; clear hK)
          (refine WC.seq ?_; intro K hK)
          refine WC.region rfl ?_
          refine WL.want rfl (WL1.give rfl (g_move rfl (.mk (v := .slice _ _ _) rfl rfl)) ?_)
          refine WL.want rfl (WL1.give rfl (g_move rfl (.mk (v := .slice _ _ _) rfl rfl)) ?_)
          (refine WL.want rfl (WL1.callN rfl rfl rfl (.cons (.mk (v := .slice _ _ _) rfl rfl) .nil) (fun w hw => hfr w hw.1) ?_); rintro _ _ ⟨Af, cf, rfl, rfl⟩)
          refine WL.want rfl (WL1.callP rfl rfl rfl (.cons (.mk (v := .slice _ _ _) rfl rfl) (.cons (.mk (v := .slice _ _ _) rfl rfl) .nil)) (fun w hw => hap w _ _ (Sl.of_vec hw (by repeat (first | exact .head _ | apply List.Mem.tail))) (Sl.of_vec hw (.head _))) ?_)
          refine WL.want rfl (WL1.give rfl (g_move rfl (.mk (v := .tuple _) rfl rfl)) ?_)
          refine WL.want rfl (WL1.give rfl (g_extract rfl (.mk rfl rfl) rfl) ?_)
          refine WL.want rfl (WL1.give rfl (g_extract rfl (.mk rfl rfl) rfl) ?_)
          refine WL.want rfl (WL1.give rfl (g_extract rfl (.mk rfl rfl) rfl) ?_)
          refine WL.want rfl (WL1.give rfl (g_assign rfl (.mk (v := .slice _ _ _) rfl rfl)) ?_)
          refine WL.want rfl (WL1.give rfl (g_assign rfl (.mk (v := .slice _ _ _) rfl rfl)) ?_)
          refine WL.want rfl (WL1.give rfl (g_assign rfl (.mk (v := .int _ _) rfl rfl)) ?_)
          refine WL.nil ?_
          (refine hK _ _ ?_; clear hK)
          (refine WC.seq ?_; intro K hK)
          (refine WC.seq ?_; intro K hK)
          refine WC.region rfl ?_
          refine WL.want rfl (WL1.give rfl (g_move rfl (.mk (v := .int _ _) rfl rfl)) ?_)
          refine WL.want rfl (WL1.give rfl (g_ne rfl (.mk rfl rfl) (.mk rfl rfl) (decide_eq_true (by omega))) ?_)
          refine WL.nil ?_
          (refine hK _ _ ?_; clear hK)
          refine WC.cond_true (.mk rfl rfl) ?_
          (refine WC.seq ?_; intro K hK)
          refine WC.region rfl ?_
          refine WL.want rfl (WL1.give rfl (g_move rfl (.mk (v := .int _ _) rfl rfl)) ?_)
          refine WL.want rfl (WL1.give rfl (g_eq rfl (.mk rfl rfl) (.mk rfl rfl) (decide_eq_true (by omega))) ?_)
          refine WL.want rfl (WL1.give rfl (g_assign rfl (.mk (v := .bool _) rfl rfl)) ?_)
          refine WL.nil ?_
          (refine hK _ _ ?_; clear hK)
          refine WC.ret ?_
          exact fun w' hw' => ⟨rfl, hw'.1⟩
        | true =>
          obtain ⟨qa, hqa⟩ : ∃ qa, qa = apL (ds ++ enc ds) l := ⟨_, rfl⟩
          obtain ⟨g, hg⟩ : ∃ g, g = numL (difP qa (ds ++ enc ds)) (ds.length + 3) := ⟨_, rfl⟩
          have hap := fun w' v v2 h1 h2 => apply_k (w := w') (vp := v) (vl := v2) (ps := ds ++ enc ds) (qs := qa) (l := l) (n := ds.length) (m := ds.length + 3) (t := l.length) (k := g.length) (ds := g) hgl rfl rfl hd1 hd2 (by omega) hgg ho hqa.symm hg.symm rfl h1 h2
          have hqg : isGroup qa = true := by rw [hqa]; exact group_apL hgl hd1 hd2
          have hqal : qa.length = ds.length + 3 := by
            rw [hqa]; unfold apL; rw [List.length_append, enc3, datP_len, List.length_take]; omega
          have hqc : ∀ w' v, Sl w' 8 v (ds.length + 3) (kvs qa) → Calls Try.prog 18 #[v] w' fun e w2 => e = .returned (.bool true) ∧ Below w'.heap.size w' w2 := fun w' v h => by
            have := rcheck_e v qa w' (by rw [hqal]; exact h) (by omega)
            rwa [hqg] at this
          have hz0 : Dst l → qa = bG ds l 0 := fun h => by rw [hqa, bG_zero h]
          have hbe := bG_end ds l
          have hmade : (madeCells (Value.bool false).cells ((ds.length + 3) * 1)).toList = bls (sn (ds.length + 3) l 0) := bls_made _
          clear hg hqa hqg hgg hgl
          refine calls_wc (args := [.slice A ds.length c, .slice B l.length d, iv (M : Int)]) [6] [] Try.func4 rfl Try.ntmps4 rfl rfl rfl rfl (H.refl _) ?_
          (refine WC.seq ?_; intro K hK)
          refine WC.region rfl ?_
          refine WL.want rfl (WL1.give rfl (g_assign rfl (.mk (v := .bool _) rfl rfl)) ?_)
          refine WL.nil ?_
          (refine hK _ _ ?_; clear hK)
          (refine WC.seq ?_; intro K hK)
          (refine WC.seq ?_; intro K hK)
          refine WC.region rfl ?_
          refine WL.want rfl (WL1.callP rfl rfl rfl .nil (fun w hw => awake_e w) ?_)
          refine WL.want rfl (WL1.give rfl (g_notT rfl (.mk rfl rfl)) ?_)
          refine WL.nil ?_
          (refine hK _ _ ?_; clear hK)
          refine WC.cond_false (.mk rfl rfl) ?_
          refine WC.skip ?_
          (refine hK _ _ ?_; clear hK)
          (refine WC.seq ?_; intro K hK)
          (refine WC.seq ?_; intro K hK)
          refine WC.region rfl ?_
          refine WL.want rfl (WL1.give rfl (g_move rfl (.mk (v := .slice _ _ _) rfl rfl)) ?_)
          refine WL.want rfl (WL1.give rfl (g_len rfl (.mk rfl rfl) rfl) ?_)
          refine WL.want rfl (WL1.give rfl (g_gt rfl (.mk rfl rfl) (.mk rfl rfl) (decide_eq_false (by omega))) ?_)
          refine WL.nil ?_
          (refine hK _ _ ?_; clear hK)
          refine WC.cond_false (.mk rfl rfl) ?_
          refine WC.skip ?_
          (refine hK _ _ ?_; clear hK)
          (refine WC.seq ?_; intro K hK)
          refine WC.region rfl ?_
          refine WL.want rfl (WL1.give rfl (g_move rfl (.mk (v := .int _ _) rfl rfl)) ?_)
          (refine WL.want rfl (WL1.callN rfl rfl rfl (.cons (.mk (v := .int _ _) rfl rfl) .nil) (fun w hw => hzn w) ?_); rintro _ _ ⟨Az, cz, rfl, rfl⟩)
          refine WL.want rfl (WL1.give rfl (g_assign rfl (.mk (v := .slice _ _ _) rfl rfl)) ?_)
          refine WL.nil ?_
          (refine hK _ _ ?_; clear hK)
          (refine WC.seq ?_; intro K hK)
          (refine WC.seq ?_; intro K hK)
          refine WC.region rfl ?_
          refine WL.want rfl (WL1.give rfl (g_move rfl (.mk (v := .int _ _) rfl rfl)) ?_)
          refine WL.want rfl (WL1.give rfl (g_lt rfl (.mk rfl rfl) (.mk rfl rfl) (decide_eq_false (by omega))) ?_)
          refine WL.want rfl (WL1.give rfl (g_move rfl (.mk (v := .bool _) rfl rfl)) ?_)
          refine WL.wantG rfl rfl rfl rfl (WL1.give rfl (g_move rfl (.mk (v := .int _ _) rfl rfl)) ?_)
          refine WL.wantG rfl rfl rfl rfl (WL1.give rfl (g_gt rfl (.mk rfl rfl) (.mk rfl rfl) (decide_eq_false (by omega))) ?_)
          refine WL.want rfl (WL1.give rfl (g_pickF rfl (.mk rfl rfl) (.mk (v := .bool _) rfl rfl)) ?_)
          refine WL.nil ?_
          (refine hK _ _ ?_; clear hK)
          refine WC.cond_false (.mk rfl rfl) ?_
          (refine WC.seq ?_; intro K hK)
          refine WC.region rfl ?_
          refine WL.want rfl (WL1.give rfl (g_move rfl (.mk (v := .slice _ _ _) rfl rfl)) ?_)
          refine WL.want rfl (WL1.give rfl (g_len rfl (.mk rfl rfl) rfl) ?_)
          refine WL.want rfl (WL1.give rfl (g_move rfl (.mk (v := .int _ _) rfl rfl)) ?_)
          refine WL.want rfl (WL1.give rfl (g_ne rfl (.mk rfl rfl) (.mk rfl rfl) (decide_eq_false (by omega))) ?_)
          refine WL.want rfl (WL1.give rfl (g_move rfl (.mk (v := .bool _) rfl rfl)) ?_)
          refine WL.wantG rfl rfl rfl rfl (WL1.give rfl (g_move rfl (.mk (v := .slice _ _ _) rfl rfl)) ?_)
          refine WL.wantG rfl rfl rfl rfl (WL1.callP rfl rfl rfl (.cons (.mk (v := .slice _ _ _) rfl rfl) .nil) (fun w hw => hzc w _ (Sl.of_vec hw (.head _))) ?_)
          refine WL.wantG rfl rfl rfl rfl (WL1.give rfl (g_notT rfl (.mk rfl rfl)) ?_)
          refine WL.want rfl (WL1.give rfl (g_pickF rfl (.mk rfl rfl) (.mk (v := .bool _) rfl rfl)) ?_)
          refine WL.want rfl (WL1.give rfl (g_move rfl (.mk (v := .bool _) rfl rfl)) ?_)
          refine WL.wantG rfl rfl rfl rfl (WL1.give rfl (g_move rfl (.mk (v := .slice _ _ _) rfl rfl)) ?_)
          refine WL.wantG rfl rfl rfl rfl (WL1.give rfl (g_indexAddr (sz := 8) rfl (.mk rfl rfl) (.mk rfl rfl) rfl rfl (show _ = ((0 : Nat) : Int) from rfl) (by omega) (fun w hw => vec_some hw (.head _) (by omega))) ?_)
          refine WL.wantG rfl rfl rfl rfl (WL1.give rfl (g_loadA rfl (.mk rfl rfl) rfl rfl (rdr_vec (by repeat (first | exact .head _ | apply List.Mem.tail)) (by omega) gz)) ?_)
          refine WL.wantG rfl rfl rfl rfl (WL1.give rfl (g_buildArr (cs := [_, _, _, _, _, _, _, _]) rfl rfl rfl rfl rfl .nil rfl rfl rfl) ?_)
          refine WL.wantG rfl rfl rfl rfl (WL1.give rfl (g_ane (by kernel_rfl) rfl (.mk rfl rfl) (.mk rfl rfl) E0) ?_)
          refine WL.want rfl (WL1.give rfl (g_pickF rfl (.mk rfl rfl) (.mk (v := .bool _) rfl rfl)) ?_)
          refine WL.nil ?_
          (refine hK _ _ ?_; clear hK)
          refine WC.cond_false (.mk rfl rfl) ?_
          refine WC.skip ?_
          (refine hK _ _ ?_; clear hK)
          (refine WC.seq ?_; intro K hK)
          refine WC.region rfl ?_
          refine WL.want rfl (WL1.give rfl (g_move rfl (.mk (v := .slice _ _ _) rfl rfl)) ?_)
          (refine WL.want rfl (WL1.callN rfl rfl rfl (.cons (.mk (v := .slice _ _ _) rfl rfl) .nil) (fun w hw => hwh w hw.1) ?_); rintro _ _ ⟨Ap, cp, rfl, rfl⟩)
          refine WL.want rfl (WL1.give rfl (g_move rfl (.mk (v := .tuple _) rfl rfl)) ?_)
          refine WL.want rfl (WL1.give rfl (g_extract rfl (.mk rfl rfl) rfl) ?_)
          refine WL.want rfl (WL1.give rfl (g_extract rfl (.mk rfl rfl) rfl) ?_)
          refine WL.want rfl (WL1.give rfl (g_assign rfl (.mk (v := .slice _ _ _) rfl rfl)) ?_)
          refine WL.want rfl (WL1.give rfl (g_assign rfl (.mk (v := .bool _) rfl rfl)) ?_)
          refine WL.nil ?_
          (refine hK _ _ ?_; clear hK)
          (refine WC.seq ?_; intro K hK)
          (refine WC.seq ?_; intro K hK)
          refine WC.region rfl ?_
          refine WL.want rfl (WL1.give rfl (g_move rfl (.mk (v := .bool _) rfl rfl)) ?_)
          refine WL.want rfl (WL1.give rfl (g_notT rfl (.mk rfl rfl)) ?_)
          refine WL.nil ?_
          (refine hK _ _ ?_; clear hK)
          refine WC.cond_false (.mk rfl rfl) ?_
          refine WC.skip ?_
          (refine hK _ _ ?_; clear hK)
          (refine WC.seq ?_; intro K hK)
          refine WC.region rfl ?_
          refine WL.want rfl (WL1.give rfl (g_move rfl (.mk (v := .slice _ _ _) rfl rfl)) ?_)
          refine WL.want rfl (WL1.give rfl (g_move rfl (.mk (v := .slice _ _ _) rfl rfl)) ?_)
          (refine WL.want rfl (WL1.callN rfl rfl rfl (.cons (.mk (v := .slice _ _ _) rfl rfl) .nil) (fun w hw => hfr w hw.1) ?_); rintro _ _ ⟨Af, cf, rfl, rfl⟩)
          (refine WL.want rfl (WL1.callN rfl rfl rfl (.cons (.mk (v := .slice _ _ _) rfl rfl) (.cons (.mk (v := .slice _ _ _) rfl rfl) .nil)) (fun w hw => hap w _ _ (Sl.of_vec hw (by repeat (first | exact .head _ | apply List.Mem.tail))) (Sl.of_vec hw (.head _))) ?_); rintro _ _ ⟨Aa, ca, Fa, fa, rfl, rfl⟩)
          refine WL.want rfl (WL1.give rfl (g_move rfl (.mk (v := .tuple _) rfl rfl)) ?_)
          refine WL.want rfl (WL1.give rfl (g_extract rfl (.mk rfl rfl) rfl) ?_)
          refine WL.want rfl (WL1.give rfl (g_extract rfl (.mk rfl rfl) rfl) ?_)
          refine WL.want rfl (WL1.give rfl (g_extract rfl (.mk rfl rfl) rfl) ?_)
          refine WL.want rfl (WL1.give rfl (g_assign rfl (.mk (v := .slice _ _ _) rfl rfl)) ?_)
          refine WL.want rfl (WL1.give rfl (g_assign rfl (.mk (v := .slice _ _ _) rfl rfl)) ?_)
          refine WL.want rfl (WL1.give rfl (g_assign rfl (.mk (v := .int _ _) rfl rfl)) ?_)
          refine WL.nil ?_
          (refine hK _ _ ?_; clear hK)
          (refine WC.seq ?_; intro K hK)
          (refine WC.seq ?_; intro K hK)
          refine WC.region rfl ?_
          refine WL.want rfl (WL1.give rfl (g_move rfl (.mk (v := .int _ _) rfl rfl)) ?_)
          refine WL.want rfl (WL1.give rfl (g_ne rfl (.mk rfl rfl) (.mk rfl rfl) (decide_eq_false (by omega))) ?_)
          refine WL.nil ?_
          (refine hK _ _ ?_; clear hK)
          refine WC.cond_false (.mk rfl rfl) ?_
          refine WC.skip ?_
          (refine hK _ _ ?_; clear hK)
          (refine WC.seq ?_; intro K hK)
          refine WC.region rfl ?_
          refine WL.want rfl (WL1.give rfl (g_move rfl (.mk (v := .slice _ _ _) rfl rfl)) ?_)
          refine WL.want rfl (WL1.give rfl (g_len rfl (.mk rfl rfl) rfl) ?_)
          refine WL.want rfl (WL1.make elBo rfl rfl (.mk rfl rfl) (.mk rfl rfl) rfl rfl (by omega) (by unfold maxLen; omega) (fun b71 => ?_))
          refine WL.want rfl (WL1.give rfl (g_assign rfl (.mk (v := .slice _ _ _) rfl rfl)) ?_)
          refine WL.nil ?_
          (refine hK _ _ ?_; clear hK)
          (refine WC.seq ?_; intro K hK)
          (refine WC.seq ?_; intro K hK)
          refine WC.region rfl ?_
          refine WL.want rfl (WL1.give rfl (g_move rfl (.mk (v := .slice _ _ _) rfl rfl)) ?_)
          refine WL.want rfl (WL1.give rfl (g_len rfl (.mk rfl rfl) rfl) ?_)
          refine WL.want rfl (WL1.give rfl (g_move rfl (.mk (v := .int _ _) rfl rfl)) ?_)
          refine WL.nil ?_
          (refine hK _ _ ?_; clear hK)
          refine WC.block ?_
          rw [hmade]
          refine WC.loopF (fun i : Nat => [(74, iv i), (73, iv l.length), (72, .slice B l.length d), (13, .slice (some ⟨b71, 0, none⟩) (ds.length + 3) (ds.length + 3)), (10, .slice Aa (ds.length + 3) ca), (8, .slice Ap (ds.length + 3) cp), (1, .slice B l.length d)]) (fun i => [vec (some ⟨b71, 0, none⟩) (ds.length + 3) (ds.length + 3) 4 1 (bls (sn (ds.length + 3) l i)), vec Aa (ds.length + 3) ca 38 8 (kvs qa), vec Ap (ds.length + 3) cp 38 8 (kvs (ds ++ enc ds))]) (fun i => i ≤ l.length ∧ Dst (l.take i)) (fun i => l.length - i) 0 (by repeat (first | exact trivial | refine ⟨rfl, ?_⟩)) (Imp.pick (A := vec (some ⟨b71, 0, none⟩) (ds.length + 3) (ds.length + 3) 4 1 (bls (sn (ds.length + 3) l 0))) (by repeat (first | exact .head | apply Take.tail)) (Imp.pick (A := vec Aa (ds.length + 3) ca 38 8 (kvs qa)) (by repeat (first | exact .head | apply Take.tail)) (Imp.pick (A := vec Ap (ds.length + 3) cp 38 8 (kvs (ds ++ enc ds))) (by repeat (first | exact .head | apply Take.tail)) (Imp.nil _)))) ⟨by omega, by unfold Dst; rw [List.take_zero]; exact .nil⟩ ?_
          rintro i U ⟨hi, hD⟩
          clear hwh hfr hap hmade
          by_cases hlt : i < l.length
          · have hgd := chg_row (l := l) (k := i) hlt
            obtain ⟨q1, q2⟩ := okC_each ho hlt
            have hds := dst_snoc hlt hD
            have hsn : (sn (ds.length + 3) l i).set (nth l i).s.toNat true = sn (ds.length + 3) l (i + 1) := rfl
            have hnn := fun h => sn_not (m := ds.length + 3) (l := l) (i := i) (z := (nth l i).s.toNat) (by omega) h (by omega)
            have hsl := sn_len (ds.length + 3) l i
            obtain ⟨x, hx⟩ : ∃ x, x = nth l i := ⟨_, rfl⟩
            rw [← hx] at hgd q1 q2 hds hsn hnn
            obtain ⟨z, hzz⟩ : ∃ z : Nat, x.s = z := ⟨x.s.toNat, by omega⟩
            have hz2 : x.s.toNat = z := by omega
            rw [hz2] at hds hsn hnn
            have hzn2 : z < ds.length + 3 := by omega
            have g0 : x.cells[0 + (0 + 0)]? = some (iv z) := by rw [← hzz]; rfl
            obtain ⟨S, hS⟩ : ∃ S, S = sn (ds.length + 3) l i := ⟨_, rfl⟩
            rw [← hS] at hsn hnn hsl ⊢
            have gs := bls_get (l := S) (k := z) (by omega)
            have hbl : (bls S).length = ds.length + 3 := by rw [bls_len, hsl]
            clear hx hzz hS hz0 hbe hc hm hmd hcd q1 q2
            cases hsz : nth S z with
            | true =>
              rw [hsz] at gs
              (refine WC.seq ?_; intro K hK)
              refine WC.region rfl ?_
              refine WL.want rfl (WL1.give rfl (g_lt rfl (.mk rfl rfl) (.mk rfl rfl) (decide_eq_true (by omega))) ?_)
              refine WL.nil ?_
              (refine hK _ _ ?_; clear hK)
              (refine WC.seq ?_; intro K hK)
              refine WC.cond_true (.mk rfl rfl) ?_
              refine WC.skip ?_
              (refine hK _ _ ?_; clear hK)
              (refine WC.seq ?_; intro K hK)
              refine WC.block ?_
              (refine WC.seq ?_; intro K hK)
              refine WC.region rfl ?_
              refine WL.want rfl (WL1.give rfl (g_indexAddr (sz := 9) rfl (.mk rfl rfl) (.mk rfl rfl) rfl rfl rfl (by omega) (fun _ _ => sl_some hsb (by omega))) ?_)
              refine WL.want rfl (WL1.give rfl (g_loadA rfl (.mk rfl rfl) rfl (sz9r _) (rdr_sl hsb (by omega) hgd)) ?_)
              refine WL.want rfl (WL1.alloc rfl rfl rfl rfl (fun b15 => ?_))
              refine WL.want rfl (WL1.storeAll rfl rfl (.mk rfl rfl) (.mk rfl rfl) (sz9r _) (Chg.one _) (by rw [Chg.len]; rfl) .head ?_)
              refine WL.nil ?_
              (refine hK _ _ ?_; clear hK)
              (refine WC.seq ?_; intro K hK)
              (refine WC.seq ?_; intro K hK)
              refine WC.region rfl ?_
              refine WL.want rfl (WL1.give rfl (g_move rfl (.mk (v := .slice _ _ _) rfl rfl)) ?_)
              refine WL.want rfl (WL1.give rfl (g_fieldAddr (off := 0) rfl (.mk rfl rfl) rfl (fun _ _ => rfl)) ?_)
              refine WL.want rfl (WL1.give rfl (g_load rfl (.mk rfl rfl) rfl (rd_pt (by repeat (first | exact .head _ | apply List.Mem.tail)) g0)) ?_)
              refine WL.want rfl (WL1.give rfl (g_indexAddr (sz := 1) rfl (.mk rfl rfl) (.mk rfl rfl) rfl rfl rfl (by omega) (fun _ _ => rfl)) ?_)
              refine WL.want rfl (WL1.give rfl (g_load rfl (.mk rfl rfl) rfl (rd_vec (by repeat (first | exact .head _ | apply List.Mem.tail)) gs)) ?_)
              refine WL.nil ?_
              (refine hK _ _ ?_; clear hK)
              refine WC.cond_true (.mk rfl rfl) ?_
              (refine WC.seq ?_; intro K hK)
              refine WC.region rfl ?_
              refine WL.want rfl (WL1.give rfl (g_move rfl (.mk (v := .slice _ _ _) rfl rfl)) ?_)
              refine WL.want rfl (WL1.callP rfl rfl rfl (.cons (.mk (v := .slice _ _ _) rfl rfl) .nil) (fun w hw => hqc w _ (Sl.of_vec hw (by repeat (first | exact .head _ | apply List.Mem.tail)))) ?_)
              refine WL.want rfl (WL1.give rfl (g_assign rfl (.mk (v := .bool _) rfl rfl)) ?_)
              refine WL.nil ?_
              (refine hK _ _ ?_; clear hK)
              refine WC.ret ?_
              exact fun w' hw' => ⟨rfl, hw'.1⟩
            | false =>
              rw [hsz] at gs
              (refine WC.seq ?_; intro K hK)
              refine WC.region rfl ?_
              refine WL.want rfl (WL1.give rfl (g_lt rfl (.mk rfl rfl) (.mk rfl rfl) (decide_eq_true (by omega))) ?_)
              refine WL.nil ?_
              (refine hK _ _ ?_; clear hK)
              (refine WC.seq ?_; intro K hK)
              refine WC.cond_true (.mk rfl rfl) ?_
              refine WC.skip ?_
              (refine hK _ _ ?_; clear hK)
              (refine WC.seq ?_; intro K hK)
              refine WC.block ?_
              (refine WC.seq ?_; intro K hK)
              refine WC.region rfl ?_
              refine WL.want rfl (WL1.give rfl (g_indexAddr (sz := 9) rfl (.mk rfl rfl) (.mk rfl rfl) rfl rfl rfl (by omega) (fun _ _ => sl_some hsb (by omega))) ?_)
              refine WL.want rfl (WL1.give rfl (g_loadA rfl (.mk rfl rfl) rfl (sz9r _) (rdr_sl hsb (by omega) hgd)) ?_)
              refine WL.want rfl (WL1.alloc rfl rfl rfl rfl (fun b15 => ?_))
              refine WL.want rfl (WL1.storeAll rfl rfl (.mk rfl rfl) (.mk rfl rfl) (sz9r _) (Chg.one _) (by rw [Chg.len]; rfl) .head ?_)
              refine WL.nil ?_
              (refine hK _ _ ?_; clear hK)
              (refine WC.seq ?_; intro K hK)
              (refine WC.seq ?_; intro K hK)
              refine WC.region rfl ?_
              refine WL.want rfl (WL1.give rfl (g_move rfl (.mk (v := .slice _ _ _) rfl rfl)) ?_)
              refine WL.want rfl (WL1.give rfl (g_fieldAddr (off := 0) rfl (.mk rfl rfl) rfl (fun _ _ => rfl)) ?_)
              refine WL.want rfl (WL1.give rfl (g_load rfl (.mk rfl rfl) rfl (rd_pt (by repeat (first | exact .head _ | apply List.Mem.tail)) g0)) ?_)
              refine WL.want rfl (WL1.give rfl (g_indexAddr (sz := 1) rfl (.mk rfl rfl) (.mk rfl rfl) rfl rfl rfl (by omega) (fun _ _ => rfl)) ?_)
              refine WL.want rfl (WL1.give rfl (g_load rfl (.mk rfl rfl) rfl (rd_vec (by repeat (first | exact .head _ | apply List.Mem.tail)) gs)) ?_)
              refine WL.nil ?_
              (refine hK _ _ ?_; clear hK)
              refine WC.cond_false (.mk rfl rfl) ?_
              refine WC.skip ?_
              (refine hK _ _ ?_; clear hK)
              refine WC.region rfl ?_
              refine WL.want rfl (WL1.give rfl (g_move rfl (.mk (v := .slice _ _ _) rfl rfl)) ?_)
              refine WL.want rfl (WL1.give rfl (g_fieldAddr (off := 0) rfl (.mk rfl rfl) rfl (fun _ _ => rfl)) ?_)
              refine WL.want rfl (WL1.give rfl (g_load rfl (.mk rfl rfl) rfl (rd_pt (by repeat (first | exact .head _ | apply List.Mem.tail)) g0)) ?_)
              refine WL.want rfl (WL1.give rfl (g_indexAddr (sz := 1) rfl (.mk rfl rfl) (.mk rfl rfl) rfl rfl rfl (by omega) (fun _ _ => rfl)) ?_)
              refine WL.want rfl (WL1.storeV1 rfl rfl (.mk rfl rfl) (.mk (v := .bool _) rfl rfl) rfl rfl (by first | omega | (simp; done) | (simp; omega)) (.tail (.head)) ?_)
              refine WL.nil ?_
              (refine hK _ _ ?_; clear hK)
              refine WC.region rfl ?_
              refine WL.want rfl (WL1.give rfl (g_add rfl (.mk rfl rfl) (.mk rfl rfl) (IntWalk.i64_in _ (by omega))) ?_)
              refine WL.want rfl (WL1.give rfl (g_move rfl (.mk (v := .int _ _) rfl rfl)) ?_)
              refine WL.nil ?_
              exact ⟨i + 1, (by repeat (first | exact trivial | refine ⟨rfl, ?_⟩)), by rw [Nat.mul_one, bls_set, hsn]; exact Imp.pick (by repeat (first | exact .head | apply Take.tail)) (Imp.pick (by repeat (first | exact .head | apply Take.tail)) (Imp.pick (by repeat (first | exact .head | apply Take.tail)) (Imp.nil _))), ⟨by omega, hds (hnn hsz)⟩, by omega⟩
          · obtain rfl : i = l.length := by omega
            rw [List.take_length] at hD
            have hq0 := hz0 hD
            have hsub1 : IntKind.i64.wrap ((l.length : Int) - 1) = (l.length : Int) - 1 := IntWalk.i64_in _ (by omega)
            clear hz0 hD
            (refine WC.seq ?_; intro K hK)
            refine WC.region rfl ?_
            refine WL.want rfl (WL1.give rfl (g_lt rfl (.mk rfl rfl) (.mk rfl rfl) (decide_eq_false (by omega))) ?_)
            refine WL.nil ?_
            (refine hK _ _ ?_; clear hK)
            (refine WC.seq ?_; intro K hK)
            refine WC.cond_false (.mk rfl rfl) ?_
            refine WC.exit ?_
            (clear hK; refine hK _ _ ?_; clear hK)
            (refine WC.seq ?_; intro K hK)
            refine WC.region rfl ?_
            refine WL.want rfl (WL1.give rfl (g_move rfl (.mk (v := .slice _ _ _) rfl rfl)) ?_)
            refine WL.want rfl (WL1.give rfl (g_assign rfl (.mk (v := .slice _ _ _) rfl rfl)) ?_)
            refine WL.nil ?_
            (refine hK _ _ ?_; clear hK)
            (refine WC.seq ?_; intro K hK)
            (refine WC.seq ?_; intro K hK)
            refine WC.region rfl ?_
            refine WL.want rfl (WL1.give rfl (g_move rfl (.mk (v := .slice _ _ _) rfl rfl)) ?_)
            refine WL.want rfl (WL1.give rfl (g_len rfl (.mk rfl rfl) rfl) ?_)
            refine WL.want rfl (WL1.give rfl (g_sub rfl (.mk rfl rfl) (.mk rfl rfl) hsub1) ?_)
            refine WL.want rfl (WL1.give rfl (g_assign rfl (.mk (v := .int _ _) rfl rfl)) ?_)
            refine WL.nil ?_
            (refine hK _ _ ?_; clear hK)
            refine WC.block ?_
            refine WC.loopF3 (fun (r : Nat) (Ab : Option Addr) (cb : Nat) => [(17, iv ((r : Int) - 1)), (16, .slice Ab (ds.length + 3) cb), (1, .slice B l.length d), (10, .slice Aa (ds.length + 3) ca)]) (fun r Ab cb => [vec Ab (ds.length + 3) cb 38 8 (kvs (bG ds l r)), vec Aa (ds.length + 3) ca 38 8 (kvs qa)]) (fun r _ _ => r ≤ l.length) (fun r _ _ => r) l.length Ap cp (by repeat (first | exact trivial | refine ⟨rfl, ?_⟩)) (by rw [hbe]; exact Imp.pick (A := vec Ap (ds.length + 3) cp 38 8 (kvs (ds ++ enc ds))) (by repeat (first | exact .head | apply Take.tail)) (Imp.pick (by repeat (first | exact .head | apply Take.tail)) (Imp.nil _))) (by omega) ?_
            intro r Ab cb V hr
            by_cases hr0 : r = 0
            · subst hr0
              have hbl := bG_len ds l 0
              (refine WC.seq ?_; intro K hK)
              (refine WC.seq ?_; intro K hK)
              refine WC.region rfl ?_
              refine WL.want rfl (WL1.give rfl (g_move rfl (.mk (v := .int _ _) rfl rfl)) ?_)
              refine WL.want rfl (WL1.give rfl (g_ge rfl (.mk rfl rfl) (.mk rfl rfl) (decide_eq_false (by omega))) ?_)
              refine WL.nil ?_
              (refine hK _ _ ?_; clear hK)
              refine WC.cond_false (.mk rfl rfl) ?_
              refine WC.exit ?_
              (clear hK; refine hK _ _ ?_; clear hK)
              (refine WC.seq ?_; intro K hK)
              refine WC.region rfl ?_
              refine WL.want rfl (WL1.give rfl (g_move rfl (.mk (v := .slice _ _ _) rfl rfl)) ?_)
              refine WL.want rfl (WL1.callP rfl rfl rfl (.cons (.mk (v := .slice _ _ _) rfl rfl) .nil) (fun w hw => hqc w _ (Sl.of_vec hw (by repeat (first | exact .head _ | apply List.Mem.tail)))) ?_)
              refine WL.want rfl (WL1.give rfl (g_move rfl (.mk (v := .bool _) rfl rfl)) ?_)
              refine WL.wantG rfl rfl rfl rfl (WL1.give rfl (g_move rfl (.mk (v := .slice _ _ _) rfl rfl)) ?_)
              refine WL.wantG rfl rfl rfl rfl (WL1.give rfl (g_move rfl (.mk (v := .slice _ _ _) rfl rfl)) ?_)
              refine WL.wantG rfl rfl rfl rfl (WL1.callP rfl rfl rfl (.cons (.mk (v := .slice _ _ _) rfl rfl) (.cons (.mk (v := .slice _ _ _) rfl rfl) .nil)) (fun w hw => sameblocks_t (a := qa) (b := bG ds l 0) (Sl.of_vec hw (by repeat (first | exact .head _ | apply List.Mem.tail))) (Sl.of_vec hw (.head _)) hqal hbl hq0) ?_)
              refine WL.want rfl (WL1.give rfl (g_pickT rfl (.mk rfl rfl) (.mk (v := .bool _) rfl rfl)) ?_)
              refine WL.want rfl (WL1.give rfl (g_assign rfl (.mk (v := .bool _) rfl rfl)) ?_)
              refine WL.nil ?_
              (refine hK _ _ ?_; clear hK)
              refine WC.ret ?_
              exact fun w' hw' => ⟨rfl, hw'.1⟩
            · obtain ⟨i, rfl⟩ : ∃ i, r = i + 1 := ⟨r - 1, by omega⟩
              have hri : (((i + 1 : Nat) : Int) - 1) = (i : Int) := by omega
              have hsubi : IntKind.i64.wrap ((i : Int) - 1) = (i : Int) - 1 := IntWalk.i64_in _ (by omega)
              have hone : Sl w 9 (.slice (subA B d i 9) (i + 1 - i) (d - i)) 1 (cvs [nth l i]) := by
                have := hsb.sub (l := i) (h := i + 1) (by omega) (by omega)
                rw [cvs_one_at (by omega)] at this
                exact slE (by omega) this
              have hfr1 := fun w' hb => from_n (.slice (subA B d i 9) (i + 1 - i) (d - i)) [nth l i] w' (hone.below (w' := w') hb) (by show 1 ≤ 1000000; omega)
              obtain ⟨g2, hg2⟩ : ∃ g2, g2 = numL (difP (bG ds l i) (bG ds l (i + 1))) (ds.length + 3) := ⟨_, rfl⟩
              have hap1 := fun w' v v2 h1 h2 => apply_k (w := w') (vp := v) (vl := v2) (ps := bG ds l (i + 1)) (qs := bG ds l i) (l := [nth l i]) (n := ds.length) (m := ds.length + 3) (t := 1) (k := g2.length) (ds := g2) (bG_len ds l _) rfl rfl hd1 hd2 (by omega) (bG_group l _ hd1 hd2) (okC_one ho (by omega)) (bG_step (by omega)) hg2.symm rfl h1 h2
              clear hg2 hbe hq0
              rw [hri]
              (refine WC.seq ?_; intro K hK)
              (refine WC.seq ?_; intro K hK)
              refine WC.region rfl ?_
              refine WL.want rfl (WL1.give rfl (g_move rfl (.mk (v := .int _ _) rfl rfl)) ?_)
              refine WL.want rfl (WL1.give rfl (g_ge rfl (.mk rfl rfl) (.mk rfl rfl) (decide_eq_true (by omega))) ?_)
              refine WL.nil ?_
              (refine hK _ _ ?_; clear hK)
              refine WC.cond_true (.mk rfl rfl) ?_
              refine WC.skip ?_
              (refine hK _ _ ?_; clear hK)
              (refine WC.seq ?_; intro K hK)
              refine WC.block ?_
              (refine WC.seq ?_; intro K hK)
              refine WC.region rfl ?_
              refine WL.want rfl (WL1.give rfl (g_move rfl (.mk (v := .slice _ _ _) rfl rfl)) ?_)
              refine WL.want rfl (WL1.give rfl (g_move rfl (.mk (v := .slice _ _ _) rfl rfl)) ?_)
              refine WL.want rfl (WL1.give rfl (g_move rfl (.mk (v := .int _ _) rfl rfl)) ?_)
              refine WL.want rfl (WL1.give rfl (g_move rfl (.mk (v := .int _ _) rfl rfl)) ?_)
              refine WL.want rfl (WL1.give rfl (g_add rfl (.mk rfl rfl) (.mk rfl rfl) (IntWalk.i64_in _ (by omega))) ?_)
              refine WL.want rfl (WL1.give rfl (g_slice (sz := 9) rfl (.mk rfl rfl) rfl rfl ⟨(.mk rfl rfl), rfl⟩ ⟨(.mk rfl rfl), (Int.toNat_of_nonneg (by omega)).symm⟩ (by omega) (by omega)) ?_)
              (refine WL.want rfl (WL1.callN rfl rfl rfl (.cons (.mk (v := .slice _ _ _) rfl rfl) .nil) (fun w hw => hfr1 w hw.1) ?_); rintro _ _ ⟨Af, cf, rfl, rfl⟩)
              (refine WL.want rfl (WL1.callN rfl rfl rfl (.cons (.mk (v := .slice _ _ _) rfl rfl) (.cons (.mk (v := .slice _ _ _) rfl rfl) .nil)) (fun w hw => hap1 w _ _ (Sl.of_vec hw (by repeat (first | exact .head _ | apply List.Mem.tail))) (Sl.of_vec hw (.head _))) ?_); rintro _ _ ⟨A2, c2, F2, f2, rfl, rfl⟩)
              refine WL.want rfl (WL1.give rfl (g_move rfl (.mk (v := .tuple _) rfl rfl)) ?_)
              refine WL.want rfl (WL1.give rfl (g_extract rfl (.mk rfl rfl) rfl) ?_)
              refine WL.want rfl (WL1.give rfl (g_extract rfl (.mk rfl rfl) rfl) ?_)
              refine WL.want rfl (WL1.give rfl (g_extract rfl (.mk rfl rfl) rfl) ?_)
              refine WL.want rfl (WL1.give rfl (g_assign rfl (.mk (v := .slice _ _ _) rfl rfl)) ?_)
              refine WL.want rfl (WL1.give rfl (g_assign rfl (.mk (v := .int _ _) rfl rfl)) ?_)
              refine WL.nil ?_
              (refine hK _ _ ?_; clear hK)
              (refine WC.seq ?_; intro K hK)
              refine WC.region rfl ?_
              refine WL.want rfl (WL1.give rfl (g_move rfl (.mk (v := .int _ _) rfl rfl)) ?_)
              refine WL.want rfl (WL1.give rfl (g_ne rfl (.mk rfl rfl) (.mk rfl rfl) (decide_eq_false (by omega))) ?_)
              refine WL.nil ?_
              (refine hK _ _ ?_; clear hK)
              refine WC.cond_false (.mk rfl rfl) ?_
              refine WC.skip ?_
              (refine hK _ _ ?_; clear hK)
              refine WC.region rfl ?_
              refine WL.want rfl (WL1.give rfl (g_move rfl (.mk (v := .int _ _) rfl rfl)) ?_)
              refine WL.want rfl (WL1.give rfl (g_sub rfl (.mk rfl rfl) (.mk rfl rfl) hsubi) ?_)
              refine WL.want rfl (WL1.give rfl (g_assign rfl (.mk (v := .int _ _) rfl rfl)) ?_)
              refine WL.nil ?_
              exact ⟨i, A2, c2, (by repeat (first | exact trivial | refine ⟨rfl, ?_⟩)), Imp.pick (A := vec A2 (ds.length + 3) c2 38 8 (kvs (bG ds l i))) (by repeat (first | exact .head | apply Take.tail)) (Imp.pick (A := vec Aa (ds.length + 3) ca 38 8 (kvs qa)) (by repeat (first | exact .head | apply Take.tail)) (Imp.nil _)), by omega, by omega⟩
      · have hwb := fun w' hb => whole_bad (.slice A ds.length c) ds w' (hs.below (w' := w') hb) hd
        refine calls_wc (args := [.slice A ds.length c, .slice B l.length d, iv (M : Int)]) [6] [] Try.func4 rfl Try.ntmps4 rfl rfl rfl rfl (H.refl _) ?_
        (refine WC.seq ?_; intro K hK)
        refine WC.region rfl ?_
        refine WL.want rfl (WL1.give rfl (g_assign rfl (.mk (v := .bool _) rfl rfl)) ?_)
        refine WL.nil ?_
        (refine hK _ _ ?_; clear hK)
        (refine WC.seq ?_; intro K hK)
        (refine WC.seq ?_; intro K hK)
        refine WC.region rfl ?_
        refine WL.want rfl (WL1.callP rfl rfl rfl .nil (fun w hw => awake_e w) ?_)
        refine WL.want rfl (WL1.give rfl (g_notT rfl (.mk rfl rfl)) ?_)
        refine WL.nil ?_
        (refine hK _ _ ?_; clear hK)
        refine WC.cond_false (.mk rfl rfl) ?_
        refine WC.skip ?_
        (refine hK _ _ ?_; clear hK)
        (refine WC.seq ?_; intro K hK)
        (refine WC.seq ?_; intro K hK)
        refine WC.region rfl ?_
        refine WL.want rfl (WL1.give rfl (g_move rfl (.mk (v := .slice _ _ _) rfl rfl)) ?_)
        refine WL.want rfl (WL1.give rfl (g_len rfl (.mk rfl rfl) rfl) ?_)
        refine WL.want rfl (WL1.give rfl (g_gt rfl (.mk rfl rfl) (.mk rfl rfl) (decide_eq_false (by omega))) ?_)
        refine WL.nil ?_
        (refine hK _ _ ?_; clear hK)
        refine WC.cond_false (.mk rfl rfl) ?_
        refine WC.skip ?_
        (refine hK _ _ ?_; clear hK)
        (refine WC.seq ?_; intro K hK)
        refine WC.region rfl ?_
        refine WL.want rfl (WL1.give rfl (g_move rfl (.mk (v := .int _ _) rfl rfl)) ?_)
        (refine WL.want rfl (WL1.callN rfl rfl rfl (.cons (.mk (v := .int _ _) rfl rfl) .nil) (fun w hw => hzn w) ?_); rintro _ _ ⟨Az, cz, rfl, rfl⟩)
        refine WL.want rfl (WL1.give rfl (g_assign rfl (.mk (v := .slice _ _ _) rfl rfl)) ?_)
        refine WL.nil ?_
        (refine hK _ _ ?_; clear hK)
        (refine WC.seq ?_; intro K hK)
        (refine WC.seq ?_; intro K hK)
        refine WC.region rfl ?_
        refine WL.want rfl (WL1.give rfl (g_move rfl (.mk (v := .int _ _) rfl rfl)) ?_)
        refine WL.want rfl (WL1.give rfl (g_lt rfl (.mk rfl rfl) (.mk rfl rfl) (decide_eq_false (by omega))) ?_)
        refine WL.want rfl (WL1.give rfl (g_move rfl (.mk (v := .bool _) rfl rfl)) ?_)
        refine WL.wantG rfl rfl rfl rfl (WL1.give rfl (g_move rfl (.mk (v := .int _ _) rfl rfl)) ?_)
        refine WL.wantG rfl rfl rfl rfl (WL1.give rfl (g_gt rfl (.mk rfl rfl) (.mk rfl rfl) (decide_eq_false (by omega))) ?_)
        refine WL.want rfl (WL1.give rfl (g_pickF rfl (.mk rfl rfl) (.mk (v := .bool _) rfl rfl)) ?_)
        refine WL.nil ?_
        (refine hK _ _ ?_; clear hK)
        refine WC.cond_false (.mk rfl rfl) ?_
        (refine WC.seq ?_; intro K hK)
        refine WC.region rfl ?_
        refine WL.want rfl (WL1.give rfl (g_move rfl (.mk (v := .slice _ _ _) rfl rfl)) ?_)
        refine WL.want rfl (WL1.give rfl (g_len rfl (.mk rfl rfl) rfl) ?_)
        refine WL.want rfl (WL1.give rfl (g_move rfl (.mk (v := .int _ _) rfl rfl)) ?_)
        refine WL.want rfl (WL1.give rfl (g_ne rfl (.mk rfl rfl) (.mk rfl rfl) (decide_eq_false (by omega))) ?_)
        refine WL.want rfl (WL1.give rfl (g_move rfl (.mk (v := .bool _) rfl rfl)) ?_)
        refine WL.wantG rfl rfl rfl rfl (WL1.give rfl (g_move rfl (.mk (v := .slice _ _ _) rfl rfl)) ?_)
        refine WL.wantG rfl rfl rfl rfl (WL1.callP rfl rfl rfl (.cons (.mk (v := .slice _ _ _) rfl rfl) .nil) (fun w hw => hzc w _ (Sl.of_vec hw (.head _))) ?_)
        refine WL.wantG rfl rfl rfl rfl (WL1.give rfl (g_notT rfl (.mk rfl rfl)) ?_)
        refine WL.want rfl (WL1.give rfl (g_pickF rfl (.mk rfl rfl) (.mk (v := .bool _) rfl rfl)) ?_)
        refine WL.want rfl (WL1.give rfl (g_move rfl (.mk (v := .bool _) rfl rfl)) ?_)
        refine WL.wantG rfl rfl rfl rfl (WL1.give rfl (g_move rfl (.mk (v := .slice _ _ _) rfl rfl)) ?_)
        refine WL.wantG rfl rfl rfl rfl (WL1.give rfl (g_indexAddr (sz := 8) rfl (.mk rfl rfl) (.mk rfl rfl) rfl rfl (show _ = ((0 : Nat) : Int) from rfl) (by omega) (fun w hw => vec_some hw (.head _) (by omega))) ?_)
        refine WL.wantG rfl rfl rfl rfl (WL1.give rfl (g_loadA rfl (.mk rfl rfl) rfl rfl (rdr_vec (by repeat (first | exact .head _ | apply List.Mem.tail)) (by omega) gz)) ?_)
        refine WL.wantG rfl rfl rfl rfl (WL1.give rfl (g_buildArr (cs := [_, _, _, _, _, _, _, _]) rfl rfl rfl rfl rfl .nil rfl rfl rfl) ?_)
        refine WL.wantG rfl rfl rfl rfl (WL1.give rfl (g_ane (by kernel_rfl) rfl (.mk rfl rfl) (.mk rfl rfl) E0) ?_)
        refine WL.want rfl (WL1.give rfl (g_pickF rfl (.mk rfl rfl) (.mk (v := .bool _) rfl rfl)) ?_)
        refine WL.nil ?_
        (refine hK _ _ ?_; clear hK)
        refine WC.cond_false (.mk rfl rfl) ?_
        refine WC.skip ?_
        (refine hK _ _ ?_; clear hK)
        (refine WC.seq ?_; intro K hK)
        refine WC.region rfl ?_
        refine WL.want rfl (WL1.give rfl (g_move rfl (.mk (v := .slice _ _ _) rfl rfl)) ?_)
        refine WL.want rfl (WL1.callP rfl rfl rfl (.cons (.mk (v := .slice _ _ _) rfl rfl) .nil) (fun w hw => hwb w hw.1) ?_)
        refine WL.want rfl (WL1.give rfl (g_move rfl (.mk (v := .tuple _) rfl rfl)) ?_)
        refine WL.want rfl (WL1.give rfl (g_extract rfl (.mk rfl rfl) rfl) ?_)
        refine WL.want rfl (WL1.give rfl (g_extract rfl (.mk rfl rfl) rfl) ?_)
        refine WL.want rfl (WL1.give rfl (g_assign rfl (.mk (v := .slice _ _ _) rfl rfl)) ?_)
        refine WL.want rfl (WL1.give rfl (g_assign rfl (.mk (v := .bool _) rfl rfl)) ?_)
        refine WL.nil ?_
        (refine hK _ _ ?_; clear hK)
        (refine WC.seq ?_; intro K hK)
        (refine WC.seq ?_; intro K hK)
        refine WC.region rfl ?_
        refine WL.want rfl (WL1.give rfl (g_move rfl (.mk (v := .bool _) rfl rfl)) ?_)
        refine WL.want rfl (WL1.give rfl (g_notF rfl (.mk rfl rfl)) ?_)
        refine WL.nil ?_
        (refine hK _ _ ?_; clear hK)
        refine WC.cond_true (.mk rfl rfl) ?_
        (refine WC.seq ?_; intro K hK)
        refine WC.region rfl ?_
        refine WL.want rfl (WL1.give rfl (g_assign rfl (.mk (v := .bool _) rfl rfl)) ?_)
        refine WL.nil ?_
        (refine hK _ _ ?_; clear hK)
        refine WC.ret ?_
        exact fun w' hw' => ⟨rfl, hw'.1⟩
    · have hzb := fun w' => zero_bad m w' hz
      by_cases h4 : m < 4
      · skip
        by_cases hd : 1 ≤ ds.length ∧ ds.length ≤ 13
        · obtain ⟨hd1, hd2⟩ := hd
          have hwh := fun w' hb => whole_n (.slice A ds.length c) ds w' (hs.below (w' := w') hb) hd1 hd2
          have hfr := fun w' hb => from_n (.slice B l.length d) l w' (hsb.below (w' := w') hb) (by omega)
          have hgl : (ds ++ enc ds).length = ds.length + 3 := by rw [List.length_append, enc3]
          have hgg : isGroup (ds ++ enc ds) = true := group_enc hd1 hd2
          cases ho : okC ((ds.length + 3 : Nat) : Int) l with
          | false =>
            have hap : ∀ w' v v2, Sl w' 8 v (ds.length + 3) (kvs (ds ++ enc ds)) → Sl w' 9 v2 l.length (cvs l) → Calls Try.prog 12 #[v, v2] w' fun e w2 => e = .returned (.tuple #[.slice none 0 0, .slice none 0 0, iv 1]) ∧ Below w'.heap.size w' w2 := fun w' v v2 h1 h2 => apply_bad v v2 (ds ++ enc ds) l w' (by rw [hgl]; exact h1) h2 (by omega) (fun q => by have := q.2; rw [hgl, ho] at this; exact absurd this Bool.false_ne_true)
            clear hgl hgg
            refine calls_wc (args := [.slice A ds.length c, .slice B l.length d, iv m]) [6] [] Try.func4 rfl Try.ntmps4 rfl rfl rfl rfl (H.refl _) ?_
            (refine WC.seq ?_; intro K hK)
            refine WC.region rfl ?_
            refine WL.want rfl (WL1.give rfl (g_assign rfl (.mk (v := .bool _) rfl rfl)) ?_)
            refine WL.nil ?_
            (refine hK _ _ ?_; clear hK)
            (refine WC.seq ?_; intro K hK)
            (refine WC.seq ?_; intro K hK)
            refine WC.region rfl ?_
            refine WL.want rfl (WL1.callP rfl rfl rfl .nil (fun w hw => awake_e w) ?_)
            refine WL.want rfl (WL1.give rfl (g_notT rfl (.mk rfl rfl)) ?_)
            refine WL.nil ?_
            (refine hK _ _ ?_; clear hK)
            refine WC.cond_false (.mk rfl rfl) ?_
            refine WC.skip ?_
            (refine hK _ _ ?_; clear hK)
            (refine WC.seq ?_; intro K hK)
            (refine WC.seq ?_; intro K hK)
            refine WC.region rfl ?_
            refine WL.want rfl (WL1.give rfl (g_move rfl (.mk (v := .slice _ _ _) rfl rfl)) ?_)
            refine WL.want rfl (WL1.give rfl (g_len rfl (.mk rfl rfl) rfl) ?_)
            refine WL.want rfl (WL1.give rfl (g_gt rfl (.mk rfl rfl) (.mk rfl rfl) (decide_eq_false (by omega))) ?_)
            refine WL.nil ?_
            (refine hK _ _ ?_; clear hK)
            refine WC.cond_false (.mk rfl rfl) ?_
            refine WC.skip ?_
            (refine hK _ _ ?_; clear hK)
            (refine WC.seq ?_; intro K hK)
            refine WC.region rfl ?_
            refine WL.want rfl (WL1.give rfl (g_move rfl (.mk (v := .int _ _) rfl rfl)) ?_)
            refine WL.want rfl (WL1.callP rfl rfl rfl (.cons (.mk (v := .int _ _) rfl rfl) .nil) (fun w hw => hzb w) ?_)
            refine WL.want rfl (WL1.give rfl (g_assign rfl (.mk (v := .slice _ _ _) rfl rfl)) ?_)
            refine WL.nil ?_
            (refine hK _ _ ?_; clear hK)
            (refine WC.seq ?_; intro K hK)
            (refine WC.seq ?_; intro K hK)
            refine WC.region rfl ?_
            refine WL.want rfl (WL1.give rfl (g_move rfl (.mk (v := .int _ _) rfl rfl)) ?_)
            refine WL.want rfl (WL1.give rfl (g_lt rfl (.mk rfl rfl) (.mk rfl rfl) (decide_eq_true (by omega))) ?_)
            refine WL.want rfl (WL1.give rfl (g_move rfl (.mk (v := .bool _) rfl rfl)) ?_)
            refine WL.skipG rfl rfl rfl rfl rfl rfl ?_
            refine WL.skipG rfl rfl rfl rfl rfl rfl ?_
            refine WL.want rfl (WL1.give rfl (g_pickT rfl (.mk rfl rfl) (.mk (v := .bool _) rfl rfl)) ?_)
            refine WL.nil ?_
            (refine hK _ _ ?_; clear hK)
            refine WC.cond_true (.mk rfl rfl) ?_
            (refine WC.seq ?_; intro K hK)
            refine WC.region rfl ?_
            refine WL.want rfl (WL1.give rfl (g_move rfl (.mk (v := .slice _ _ _) rfl rfl)) ?_)
            refine WL.want rfl (WL1.give rfl (g_len rfl (.mk rfl rfl) rfl) ?_)
            refine WL.want rfl (WL1.give rfl (g_ne rfl (.mk rfl rfl) (.mk rfl rfl) (decide_eq_false (by omega))) ?_)
            refine WL.nil ?_
            (refine hK _ _ ?_; clear hK)
            refine WC.cond_false (.mk rfl rfl) ?_
            refine WC.skip ?_
            (refine hK _ _ ?_; clear hK)
            (refine WC.seq ?_; intro K hK)
            refine WC.region rfl ?_
            refine WL.want rfl (WL1.give rfl (g_move rfl (.mk (v := .slice _ _ _) rfl rfl)) ?_)
            (refine WL.want rfl (WL1.callN rfl rfl rfl (.cons (.mk (v := .slice _ _ _) rfl rfl) .nil) (fun w hw => hwh w hw.1) ?_); rintro _ _ ⟨Ap, cp, rfl, rfl⟩)
            refine WL.want rfl (WL1.give rfl (g_move rfl (.mk (v := .tuple _) rfl rfl)) ?_)
            refine WL.want rfl (WL1.give rfl (g_extract rfl (.mk rfl rfl) rfl) ?_)
            refine WL.want rfl (WL1.give rfl (g_extract rfl (.mk rfl rfl) rfl) ?_)
            refine WL.want rfl (WL1.give rfl (g_assign rfl (.mk (v := .slice _ _ _) rfl rfl)) ?_)
            refine WL.want rfl (WL1.give rfl (g_assign rfl (.mk (v := .bool _) rfl rfl)) ?_)
            refine WL.nil ?_
            (refine hK _ _ ?_; clear hK)
            (refine WC.seq ?_; intro K hK)
            (refine WC.seq ?_; intro K hK)
            refine WC.region rfl ?_
            refine WL.want rfl (WL1.give rfl (g_move rfl (.mk (v := .bool _) rfl rfl)) ?_)
            refine WL.want rfl (WL1.give rfl (g_notT rfl (.mk rfl rfl)) ?_)
            refine WL.nil ?_
            (refine hK _ _ ?_; clear hK)
            refine WC.cond_false (.mk rfl rfl) ?_
            refine WC.skip ?_
            (refine hK _ _ ?_; clear hK)
            (refine WC.seq ?_; intro K hK)
            refine WC.region rfl ?_
            refine WL.want rfl (WL1.give rfl (g_move rfl (.mk (v := .slice _ _ _) rfl rfl)) ?_)
            refine WL.want rfl (WL1.give rfl (g_move rfl (.mk (v := .slice _ _ _) rfl rfl)) ?_)
            (refine WL.want rfl (WL1.callN rfl rfl rfl (.cons (.mk (v := .slice _ _ _) rfl rfl) .nil) (fun w hw => hfr w hw.1) ?_); rintro _ _ ⟨Af, cf, rfl, rfl⟩)
            refine WL.want rfl (WL1.callP rfl rfl rfl (.cons (.mk (v := .slice _ _ _) rfl rfl) (.cons (.mk (v := .slice _ _ _) rfl rfl) .nil)) (fun w hw => hap w _ _ (Sl.of_vec hw (by repeat (first | exact .head _ | apply List.Mem.tail))) (Sl.of_vec hw (.head _))) ?_)
            refine WL.want rfl (WL1.give rfl (g_move rfl (.mk (v := .tuple _) rfl rfl)) ?_)
            refine WL.want rfl (WL1.give rfl (g_extract rfl (.mk rfl rfl) rfl) ?_)
            refine WL.want rfl (WL1.give rfl (g_extract rfl (.mk rfl rfl) rfl) ?_)
            refine WL.want rfl (WL1.give rfl (g_extract rfl (.mk rfl rfl) rfl) ?_)
            refine WL.want rfl (WL1.give rfl (g_assign rfl (.mk (v := .slice _ _ _) rfl rfl)) ?_)
            refine WL.want rfl (WL1.give rfl (g_assign rfl (.mk (v := .slice _ _ _) rfl rfl)) ?_)
            refine WL.want rfl (WL1.give rfl (g_assign rfl (.mk (v := .int _ _) rfl rfl)) ?_)
            refine WL.nil ?_
            (refine hK _ _ ?_; clear hK)
            (refine WC.seq ?_; intro K hK)
            (refine WC.seq ?_; intro K hK)
            refine WC.region rfl ?_
            refine WL.want rfl (WL1.give rfl (g_move rfl (.mk (v := .int _ _) rfl rfl)) ?_)
            refine WL.want rfl (WL1.give rfl (g_ne rfl (.mk rfl rfl) (.mk rfl rfl) (decide_eq_true (by omega))) ?_)
            refine WL.nil ?_
            (refine hK _ _ ?_; clear hK)
            refine WC.cond_true (.mk rfl rfl) ?_
            (refine WC.seq ?_; intro K hK)
            refine WC.region rfl ?_
            refine WL.want rfl (WL1.give rfl (g_move rfl (.mk (v := .int _ _) rfl rfl)) ?_)
            refine WL.want rfl (WL1.give rfl (g_eq rfl (.mk rfl rfl) (.mk rfl rfl) (decide_eq_true (by omega))) ?_)
            refine WL.want rfl (WL1.give rfl (g_assign rfl (.mk (v := .bool _) rfl rfl)) ?_)
            refine WL.nil ?_
            (refine hK _ _ ?_; clear hK)
            refine WC.ret ?_
            exact fun w' hw' => ⟨rfl, hw'.1⟩
          | true =>
            obtain ⟨qa, hqa⟩ : ∃ qa, qa = apL (ds ++ enc ds) l := ⟨_, rfl⟩
            obtain ⟨g, hg⟩ : ∃ g, g = numL (difP qa (ds ++ enc ds)) (ds.length + 3) := ⟨_, rfl⟩
            have hap := fun w' v v2 h1 h2 => apply_k (w := w') (vp := v) (vl := v2) (ps := ds ++ enc ds) (qs := qa) (l := l) (n := ds.length) (m := ds.length + 3) (t := l.length) (k := g.length) (ds := g) hgl rfl rfl hd1 hd2 (by omega) hgg ho hqa.symm hg.symm rfl h1 h2
            have hqg : isGroup qa = true := by rw [hqa]; exact group_apL hgl hd1 hd2
            have hqal : qa.length = ds.length + 3 := by
              rw [hqa]; unfold apL; rw [List.length_append, enc3, datP_len, List.length_take]; omega
            have hqc : ∀ w' v, Sl w' 8 v (ds.length + 3) (kvs qa) → Calls Try.prog 18 #[v] w' fun e w2 => e = .returned (.bool true) ∧ Below w'.heap.size w' w2 := fun w' v h => by
              have := rcheck_e v qa w' (by rw [hqal]; exact h) (by omega)
              rwa [hqg] at this
            have hz0 : Dst l → qa = bG ds l 0 := fun h => by rw [hqa, bG_zero h]
            have hbe := bG_end ds l
            have hmade : (madeCells (Value.bool false).cells ((ds.length + 3) * 1)).toList = bls (sn (ds.length + 3) l 0) := bls_made _
            clear hg hqa hqg hgg hgl
            refine calls_wc (args := [.slice A ds.length c, .slice B l.length d, iv m]) [6] [] Try.func4 rfl Try.ntmps4 rfl rfl rfl rfl (H.refl _) ?_
            (refine WC.seq ?_; intro K hK)
            refine WC.region rfl ?_
            refine WL.want rfl (WL1.give rfl (g_assign rfl (.mk (v := .bool _) rfl rfl)) ?_)
            refine WL.nil ?_
            (refine hK _ _ ?_; clear hK)
            (refine WC.seq ?_; intro K hK)
            (refine WC.seq ?_; intro K hK)
            refine WC.region rfl ?_
            refine WL.want rfl (WL1.callP rfl rfl rfl .nil (fun w hw => awake_e w) ?_)
            refine WL.want rfl (WL1.give rfl (g_notT rfl (.mk rfl rfl)) ?_)
            refine WL.nil ?_
            (refine hK _ _ ?_; clear hK)
            refine WC.cond_false (.mk rfl rfl) ?_
            refine WC.skip ?_
            (refine hK _ _ ?_; clear hK)
            (refine WC.seq ?_; intro K hK)
            (refine WC.seq ?_; intro K hK)
            refine WC.region rfl ?_
            refine WL.want rfl (WL1.give rfl (g_move rfl (.mk (v := .slice _ _ _) rfl rfl)) ?_)
            refine WL.want rfl (WL1.give rfl (g_len rfl (.mk rfl rfl) rfl) ?_)
            refine WL.want rfl (WL1.give rfl (g_gt rfl (.mk rfl rfl) (.mk rfl rfl) (decide_eq_false (by omega))) ?_)
            refine WL.nil ?_
            (refine hK _ _ ?_; clear hK)
            refine WC.cond_false (.mk rfl rfl) ?_
            refine WC.skip ?_
            (refine hK _ _ ?_; clear hK)
            (refine WC.seq ?_; intro K hK)
            refine WC.region rfl ?_
            refine WL.want rfl (WL1.give rfl (g_move rfl (.mk (v := .int _ _) rfl rfl)) ?_)
            refine WL.want rfl (WL1.callP rfl rfl rfl (.cons (.mk (v := .int _ _) rfl rfl) .nil) (fun w hw => hzb w) ?_)
            refine WL.want rfl (WL1.give rfl (g_assign rfl (.mk (v := .slice _ _ _) rfl rfl)) ?_)
            refine WL.nil ?_
            (refine hK _ _ ?_; clear hK)
            (refine WC.seq ?_; intro K hK)
            (refine WC.seq ?_; intro K hK)
            refine WC.region rfl ?_
            refine WL.want rfl (WL1.give rfl (g_move rfl (.mk (v := .int _ _) rfl rfl)) ?_)
            refine WL.want rfl (WL1.give rfl (g_lt rfl (.mk rfl rfl) (.mk rfl rfl) (decide_eq_true (by omega))) ?_)
            refine WL.want rfl (WL1.give rfl (g_move rfl (.mk (v := .bool _) rfl rfl)) ?_)
            refine WL.skipG rfl rfl rfl rfl rfl rfl ?_
            refine WL.skipG rfl rfl rfl rfl rfl rfl ?_
            refine WL.want rfl (WL1.give rfl (g_pickT rfl (.mk rfl rfl) (.mk (v := .bool _) rfl rfl)) ?_)
            refine WL.nil ?_
            (refine hK _ _ ?_; clear hK)
            refine WC.cond_true (.mk rfl rfl) ?_
            (refine WC.seq ?_; intro K hK)
            refine WC.region rfl ?_
            refine WL.want rfl (WL1.give rfl (g_move rfl (.mk (v := .slice _ _ _) rfl rfl)) ?_)
            refine WL.want rfl (WL1.give rfl (g_len rfl (.mk rfl rfl) rfl) ?_)
            refine WL.want rfl (WL1.give rfl (g_ne rfl (.mk rfl rfl) (.mk rfl rfl) (decide_eq_false (by omega))) ?_)
            refine WL.nil ?_
            (refine hK _ _ ?_; clear hK)
            refine WC.cond_false (.mk rfl rfl) ?_
            refine WC.skip ?_
            (refine hK _ _ ?_; clear hK)
            (refine WC.seq ?_; intro K hK)
            refine WC.region rfl ?_
            refine WL.want rfl (WL1.give rfl (g_move rfl (.mk (v := .slice _ _ _) rfl rfl)) ?_)
            (refine WL.want rfl (WL1.callN rfl rfl rfl (.cons (.mk (v := .slice _ _ _) rfl rfl) .nil) (fun w hw => hwh w hw.1) ?_); rintro _ _ ⟨Ap, cp, rfl, rfl⟩)
            refine WL.want rfl (WL1.give rfl (g_move rfl (.mk (v := .tuple _) rfl rfl)) ?_)
            refine WL.want rfl (WL1.give rfl (g_extract rfl (.mk rfl rfl) rfl) ?_)
            refine WL.want rfl (WL1.give rfl (g_extract rfl (.mk rfl rfl) rfl) ?_)
            refine WL.want rfl (WL1.give rfl (g_assign rfl (.mk (v := .slice _ _ _) rfl rfl)) ?_)
            refine WL.want rfl (WL1.give rfl (g_assign rfl (.mk (v := .bool _) rfl rfl)) ?_)
            refine WL.nil ?_
            (refine hK _ _ ?_; clear hK)
            (refine WC.seq ?_; intro K hK)
            (refine WC.seq ?_; intro K hK)
            refine WC.region rfl ?_
            refine WL.want rfl (WL1.give rfl (g_move rfl (.mk (v := .bool _) rfl rfl)) ?_)
            refine WL.want rfl (WL1.give rfl (g_notT rfl (.mk rfl rfl)) ?_)
            refine WL.nil ?_
            (refine hK _ _ ?_; clear hK)
            refine WC.cond_false (.mk rfl rfl) ?_
            refine WC.skip ?_
            (refine hK _ _ ?_; clear hK)
            (refine WC.seq ?_; intro K hK)
            refine WC.region rfl ?_
            refine WL.want rfl (WL1.give rfl (g_move rfl (.mk (v := .slice _ _ _) rfl rfl)) ?_)
            refine WL.want rfl (WL1.give rfl (g_move rfl (.mk (v := .slice _ _ _) rfl rfl)) ?_)
            (refine WL.want rfl (WL1.callN rfl rfl rfl (.cons (.mk (v := .slice _ _ _) rfl rfl) .nil) (fun w hw => hfr w hw.1) ?_); rintro _ _ ⟨Af, cf, rfl, rfl⟩)
            (refine WL.want rfl (WL1.callN rfl rfl rfl (.cons (.mk (v := .slice _ _ _) rfl rfl) (.cons (.mk (v := .slice _ _ _) rfl rfl) .nil)) (fun w hw => hap w _ _ (Sl.of_vec hw (by repeat (first | exact .head _ | apply List.Mem.tail))) (Sl.of_vec hw (.head _))) ?_); rintro _ _ ⟨Aa, ca, Fa, fa, rfl, rfl⟩)
            refine WL.want rfl (WL1.give rfl (g_move rfl (.mk (v := .tuple _) rfl rfl)) ?_)
            refine WL.want rfl (WL1.give rfl (g_extract rfl (.mk rfl rfl) rfl) ?_)
            refine WL.want rfl (WL1.give rfl (g_extract rfl (.mk rfl rfl) rfl) ?_)
            refine WL.want rfl (WL1.give rfl (g_extract rfl (.mk rfl rfl) rfl) ?_)
            refine WL.want rfl (WL1.give rfl (g_assign rfl (.mk (v := .slice _ _ _) rfl rfl)) ?_)
            refine WL.want rfl (WL1.give rfl (g_assign rfl (.mk (v := .slice _ _ _) rfl rfl)) ?_)
            refine WL.want rfl (WL1.give rfl (g_assign rfl (.mk (v := .int _ _) rfl rfl)) ?_)
            refine WL.nil ?_
            (refine hK _ _ ?_; clear hK)
            (refine WC.seq ?_; intro K hK)
            (refine WC.seq ?_; intro K hK)
            refine WC.region rfl ?_
            refine WL.want rfl (WL1.give rfl (g_move rfl (.mk (v := .int _ _) rfl rfl)) ?_)
            refine WL.want rfl (WL1.give rfl (g_ne rfl (.mk rfl rfl) (.mk rfl rfl) (decide_eq_false (by omega))) ?_)
            refine WL.nil ?_
            (refine hK _ _ ?_; clear hK)
            refine WC.cond_false (.mk rfl rfl) ?_
            refine WC.skip ?_
            (refine hK _ _ ?_; clear hK)
            (refine WC.seq ?_; intro K hK)
            refine WC.region rfl ?_
            refine WL.want rfl (WL1.give rfl (g_move rfl (.mk (v := .slice _ _ _) rfl rfl)) ?_)
            refine WL.want rfl (WL1.give rfl (g_len rfl (.mk rfl rfl) rfl) ?_)
            refine WL.want rfl (WL1.make elBo rfl rfl (.mk rfl rfl) (.mk rfl rfl) rfl rfl (by omega) (by unfold maxLen; omega) (fun b71 => ?_))
            refine WL.want rfl (WL1.give rfl (g_assign rfl (.mk (v := .slice _ _ _) rfl rfl)) ?_)
            refine WL.nil ?_
            (refine hK _ _ ?_; clear hK)
            (refine WC.seq ?_; intro K hK)
            (refine WC.seq ?_; intro K hK)
            refine WC.region rfl ?_
            refine WL.want rfl (WL1.give rfl (g_move rfl (.mk (v := .slice _ _ _) rfl rfl)) ?_)
            refine WL.want rfl (WL1.give rfl (g_len rfl (.mk rfl rfl) rfl) ?_)
            refine WL.want rfl (WL1.give rfl (g_move rfl (.mk (v := .int _ _) rfl rfl)) ?_)
            refine WL.nil ?_
            (refine hK _ _ ?_; clear hK)
            refine WC.block ?_
            rw [hmade]
            refine WC.loopF (fun i : Nat => [(74, iv i), (73, iv l.length), (72, .slice B l.length d), (13, .slice (some ⟨b71, 0, none⟩) (ds.length + 3) (ds.length + 3)), (10, .slice Aa (ds.length + 3) ca), (8, .slice Ap (ds.length + 3) cp), (1, .slice B l.length d)]) (fun i => [vec (some ⟨b71, 0, none⟩) (ds.length + 3) (ds.length + 3) 4 1 (bls (sn (ds.length + 3) l i)), vec Aa (ds.length + 3) ca 38 8 (kvs qa), vec Ap (ds.length + 3) cp 38 8 (kvs (ds ++ enc ds))]) (fun i => i ≤ l.length ∧ Dst (l.take i)) (fun i => l.length - i) 0 (by repeat (first | exact trivial | refine ⟨rfl, ?_⟩)) (Imp.pick (A := vec (some ⟨b71, 0, none⟩) (ds.length + 3) (ds.length + 3) 4 1 (bls (sn (ds.length + 3) l 0))) (by repeat (first | exact .head | apply Take.tail)) (Imp.pick (A := vec Aa (ds.length + 3) ca 38 8 (kvs qa)) (by repeat (first | exact .head | apply Take.tail)) (Imp.pick (A := vec Ap (ds.length + 3) cp 38 8 (kvs (ds ++ enc ds))) (by repeat (first | exact .head | apply Take.tail)) (Imp.nil _)))) ⟨by omega, by unfold Dst; rw [List.take_zero]; exact .nil⟩ ?_
            rintro i U ⟨hi, hD⟩
            clear hwh hfr hap hmade
            by_cases hlt : i < l.length
            · have hgd := chg_row (l := l) (k := i) hlt
              obtain ⟨q1, q2⟩ := okC_each ho hlt
              have hds := dst_snoc hlt hD
              have hsn : (sn (ds.length + 3) l i).set (nth l i).s.toNat true = sn (ds.length + 3) l (i + 1) := rfl
              have hnn := fun h => sn_not (m := ds.length + 3) (l := l) (i := i) (z := (nth l i).s.toNat) (by omega) h (by omega)
              have hsl := sn_len (ds.length + 3) l i
              obtain ⟨x, hx⟩ : ∃ x, x = nth l i := ⟨_, rfl⟩
              rw [← hx] at hgd q1 q2 hds hsn hnn
              obtain ⟨z, hzz⟩ : ∃ z : Nat, x.s = z := ⟨x.s.toNat, by omega⟩
              have hz2 : x.s.toNat = z := by omega
              rw [hz2] at hds hsn hnn
              have hzn2 : z < ds.length + 3 := by omega
              have g0 : x.cells[0 + (0 + 0)]? = some (iv z) := by rw [← hzz]; rfl
              obtain ⟨S, hS⟩ : ∃ S, S = sn (ds.length + 3) l i := ⟨_, rfl⟩
              rw [← hS] at hsn hnn hsl ⊢
              have gs := bls_get (l := S) (k := z) (by omega)
              have hbl : (bls S).length = ds.length + 3 := by rw [bls_len, hsl]
              clear hx hzz hS hz0 hbe hc hm hmd hcd q1 q2
              cases hsz : nth S z with
              | true =>
                rw [hsz] at gs
                (refine WC.seq ?_; intro K hK)
                refine WC.region rfl ?_
                refine WL.want rfl (WL1.give rfl (g_lt rfl (.mk rfl rfl) (.mk rfl rfl) (decide_eq_true (by omega))) ?_)
                refine WL.nil ?_
                (refine hK _ _ ?_; clear hK)
                (refine WC.seq ?_; intro K hK)
                refine WC.cond_true (.mk rfl rfl) ?_
                refine WC.skip ?_
                (refine hK _ _ ?_; clear hK)
                (refine WC.seq ?_; intro K hK)
                refine WC.block ?_
                (refine WC.seq ?_; intro K hK)
                refine WC.region rfl ?_
                refine WL.want rfl (WL1.give rfl (g_indexAddr (sz := 9) rfl (.mk rfl rfl) (.mk rfl rfl) rfl rfl rfl (by omega) (fun _ _ => sl_some hsb (by omega))) ?_)
                refine WL.want rfl (WL1.give rfl (g_loadA rfl (.mk rfl rfl) rfl (sz9r _) (rdr_sl hsb (by omega) hgd)) ?_)
                refine WL.want rfl (WL1.alloc rfl rfl rfl rfl (fun b15 => ?_))
                refine WL.want rfl (WL1.storeAll rfl rfl (.mk rfl rfl) (.mk rfl rfl) (sz9r _) (Chg.one _) (by rw [Chg.len]; rfl) .head ?_)
                refine WL.nil ?_
                (refine hK _ _ ?_; clear hK)
                (refine WC.seq ?_; intro K hK)
                (refine WC.seq ?_; intro K hK)
                refine WC.region rfl ?_
                refine WL.want rfl (WL1.give rfl (g_move rfl (.mk (v := .slice _ _ _) rfl rfl)) ?_)
                refine WL.want rfl (WL1.give rfl (g_fieldAddr (off := 0) rfl (.mk rfl rfl) rfl (fun _ _ => rfl)) ?_)
                refine WL.want rfl (WL1.give rfl (g_load rfl (.mk rfl rfl) rfl (rd_pt (by repeat (first | exact .head _ | apply List.Mem.tail)) g0)) ?_)
                refine WL.want rfl (WL1.give rfl (g_indexAddr (sz := 1) rfl (.mk rfl rfl) (.mk rfl rfl) rfl rfl rfl (by omega) (fun _ _ => rfl)) ?_)
                refine WL.want rfl (WL1.give rfl (g_load rfl (.mk rfl rfl) rfl (rd_vec (by repeat (first | exact .head _ | apply List.Mem.tail)) gs)) ?_)
                refine WL.nil ?_
                (refine hK _ _ ?_; clear hK)
                refine WC.cond_true (.mk rfl rfl) ?_
                (refine WC.seq ?_; intro K hK)
                refine WC.region rfl ?_
                refine WL.want rfl (WL1.give rfl (g_move rfl (.mk (v := .slice _ _ _) rfl rfl)) ?_)
                refine WL.want rfl (WL1.callP rfl rfl rfl (.cons (.mk (v := .slice _ _ _) rfl rfl) .nil) (fun w hw => hqc w _ (Sl.of_vec hw (by repeat (first | exact .head _ | apply List.Mem.tail)))) ?_)
                refine WL.want rfl (WL1.give rfl (g_assign rfl (.mk (v := .bool _) rfl rfl)) ?_)
                refine WL.nil ?_
                (refine hK _ _ ?_; clear hK)
                refine WC.ret ?_
                exact fun w' hw' => ⟨rfl, hw'.1⟩
              | false =>
                rw [hsz] at gs
                (refine WC.seq ?_; intro K hK)
                refine WC.region rfl ?_
                refine WL.want rfl (WL1.give rfl (g_lt rfl (.mk rfl rfl) (.mk rfl rfl) (decide_eq_true (by omega))) ?_)
                refine WL.nil ?_
                (refine hK _ _ ?_; clear hK)
                (refine WC.seq ?_; intro K hK)
                refine WC.cond_true (.mk rfl rfl) ?_
                refine WC.skip ?_
                (refine hK _ _ ?_; clear hK)
                (refine WC.seq ?_; intro K hK)
                refine WC.block ?_
                (refine WC.seq ?_; intro K hK)
                refine WC.region rfl ?_
                refine WL.want rfl (WL1.give rfl (g_indexAddr (sz := 9) rfl (.mk rfl rfl) (.mk rfl rfl) rfl rfl rfl (by omega) (fun _ _ => sl_some hsb (by omega))) ?_)
                refine WL.want rfl (WL1.give rfl (g_loadA rfl (.mk rfl rfl) rfl (sz9r _) (rdr_sl hsb (by omega) hgd)) ?_)
                refine WL.want rfl (WL1.alloc rfl rfl rfl rfl (fun b15 => ?_))
                refine WL.want rfl (WL1.storeAll rfl rfl (.mk rfl rfl) (.mk rfl rfl) (sz9r _) (Chg.one _) (by rw [Chg.len]; rfl) .head ?_)
                refine WL.nil ?_
                (refine hK _ _ ?_; clear hK)
                (refine WC.seq ?_; intro K hK)
                (refine WC.seq ?_; intro K hK)
                refine WC.region rfl ?_
                refine WL.want rfl (WL1.give rfl (g_move rfl (.mk (v := .slice _ _ _) rfl rfl)) ?_)
                refine WL.want rfl (WL1.give rfl (g_fieldAddr (off := 0) rfl (.mk rfl rfl) rfl (fun _ _ => rfl)) ?_)
                refine WL.want rfl (WL1.give rfl (g_load rfl (.mk rfl rfl) rfl (rd_pt (by repeat (first | exact .head _ | apply List.Mem.tail)) g0)) ?_)
                refine WL.want rfl (WL1.give rfl (g_indexAddr (sz := 1) rfl (.mk rfl rfl) (.mk rfl rfl) rfl rfl rfl (by omega) (fun _ _ => rfl)) ?_)
                refine WL.want rfl (WL1.give rfl (g_load rfl (.mk rfl rfl) rfl (rd_vec (by repeat (first | exact .head _ | apply List.Mem.tail)) gs)) ?_)
                refine WL.nil ?_
                (refine hK _ _ ?_; clear hK)
                refine WC.cond_false (.mk rfl rfl) ?_
                refine WC.skip ?_
                (refine hK _ _ ?_; clear hK)
                refine WC.region rfl ?_
                refine WL.want rfl (WL1.give rfl (g_move rfl (.mk (v := .slice _ _ _) rfl rfl)) ?_)
                refine WL.want rfl (WL1.give rfl (g_fieldAddr (off := 0) rfl (.mk rfl rfl) rfl (fun _ _ => rfl)) ?_)
                refine WL.want rfl (WL1.give rfl (g_load rfl (.mk rfl rfl) rfl (rd_pt (by repeat (first | exact .head _ | apply List.Mem.tail)) g0)) ?_)
                refine WL.want rfl (WL1.give rfl (g_indexAddr (sz := 1) rfl (.mk rfl rfl) (.mk rfl rfl) rfl rfl rfl (by omega) (fun _ _ => rfl)) ?_)
                refine WL.want rfl (WL1.storeV1 rfl rfl (.mk rfl rfl) (.mk (v := .bool _) rfl rfl) rfl rfl (by first | omega | (simp; done) | (simp; omega)) (.tail (.head)) ?_)
                refine WL.nil ?_
                (refine hK _ _ ?_; clear hK)
                refine WC.region rfl ?_
                refine WL.want rfl (WL1.give rfl (g_add rfl (.mk rfl rfl) (.mk rfl rfl) (IntWalk.i64_in _ (by omega))) ?_)
                refine WL.want rfl (WL1.give rfl (g_move rfl (.mk (v := .int _ _) rfl rfl)) ?_)
                refine WL.nil ?_
                exact ⟨i + 1, (by repeat (first | exact trivial | refine ⟨rfl, ?_⟩)), by rw [Nat.mul_one, bls_set, hsn]; exact Imp.pick (by repeat (first | exact .head | apply Take.tail)) (Imp.pick (by repeat (first | exact .head | apply Take.tail)) (Imp.pick (by repeat (first | exact .head | apply Take.tail)) (Imp.nil _))), ⟨by omega, hds (hnn hsz)⟩, by omega⟩
            · obtain rfl : i = l.length := by omega
              rw [List.take_length] at hD
              have hq0 := hz0 hD
              have hsub1 : IntKind.i64.wrap ((l.length : Int) - 1) = (l.length : Int) - 1 := IntWalk.i64_in _ (by omega)
              clear hz0 hD
              (refine WC.seq ?_; intro K hK)
              refine WC.region rfl ?_
              refine WL.want rfl (WL1.give rfl (g_lt rfl (.mk rfl rfl) (.mk rfl rfl) (decide_eq_false (by omega))) ?_)
              refine WL.nil ?_
              (refine hK _ _ ?_; clear hK)
              (refine WC.seq ?_; intro K hK)
              refine WC.cond_false (.mk rfl rfl) ?_
              refine WC.exit ?_
              (clear hK; refine hK _ _ ?_; clear hK)
              (refine WC.seq ?_; intro K hK)
              refine WC.region rfl ?_
              refine WL.want rfl (WL1.give rfl (g_move rfl (.mk (v := .slice _ _ _) rfl rfl)) ?_)
              refine WL.want rfl (WL1.give rfl (g_assign rfl (.mk (v := .slice _ _ _) rfl rfl)) ?_)
              refine WL.nil ?_
              (refine hK _ _ ?_; clear hK)
              (refine WC.seq ?_; intro K hK)
              (refine WC.seq ?_; intro K hK)
              refine WC.region rfl ?_
              refine WL.want rfl (WL1.give rfl (g_move rfl (.mk (v := .slice _ _ _) rfl rfl)) ?_)
              refine WL.want rfl (WL1.give rfl (g_len rfl (.mk rfl rfl) rfl) ?_)
              refine WL.want rfl (WL1.give rfl (g_sub rfl (.mk rfl rfl) (.mk rfl rfl) hsub1) ?_)
              refine WL.want rfl (WL1.give rfl (g_assign rfl (.mk (v := .int _ _) rfl rfl)) ?_)
              refine WL.nil ?_
              (refine hK _ _ ?_; clear hK)
              refine WC.block ?_
              refine WC.loopF3 (fun (r : Nat) (Ab : Option Addr) (cb : Nat) => [(17, iv ((r : Int) - 1)), (16, .slice Ab (ds.length + 3) cb), (1, .slice B l.length d), (10, .slice Aa (ds.length + 3) ca)]) (fun r Ab cb => [vec Ab (ds.length + 3) cb 38 8 (kvs (bG ds l r)), vec Aa (ds.length + 3) ca 38 8 (kvs qa)]) (fun r _ _ => r ≤ l.length) (fun r _ _ => r) l.length Ap cp (by repeat (first | exact trivial | refine ⟨rfl, ?_⟩)) (by rw [hbe]; exact Imp.pick (A := vec Ap (ds.length + 3) cp 38 8 (kvs (ds ++ enc ds))) (by repeat (first | exact .head | apply Take.tail)) (Imp.pick (by repeat (first | exact .head | apply Take.tail)) (Imp.nil _))) (by omega) ?_
              intro r Ab cb V hr
              by_cases hr0 : r = 0
              · subst hr0
                have hbl := bG_len ds l 0
                (refine WC.seq ?_; intro K hK)
                (refine WC.seq ?_; intro K hK)
                refine WC.region rfl ?_
                refine WL.want rfl (WL1.give rfl (g_move rfl (.mk (v := .int _ _) rfl rfl)) ?_)
                refine WL.want rfl (WL1.give rfl (g_ge rfl (.mk rfl rfl) (.mk rfl rfl) (decide_eq_false (by omega))) ?_)
                refine WL.nil ?_
                (refine hK _ _ ?_; clear hK)
                refine WC.cond_false (.mk rfl rfl) ?_
                refine WC.exit ?_
                (clear hK; refine hK _ _ ?_; clear hK)
                (refine WC.seq ?_; intro K hK)
                refine WC.region rfl ?_
                refine WL.want rfl (WL1.give rfl (g_move rfl (.mk (v := .slice _ _ _) rfl rfl)) ?_)
                refine WL.want rfl (WL1.callP rfl rfl rfl (.cons (.mk (v := .slice _ _ _) rfl rfl) .nil) (fun w hw => hqc w _ (Sl.of_vec hw (by repeat (first | exact .head _ | apply List.Mem.tail)))) ?_)
                refine WL.want rfl (WL1.give rfl (g_move rfl (.mk (v := .bool _) rfl rfl)) ?_)
                refine WL.wantG rfl rfl rfl rfl (WL1.give rfl (g_move rfl (.mk (v := .slice _ _ _) rfl rfl)) ?_)
                refine WL.wantG rfl rfl rfl rfl (WL1.give rfl (g_move rfl (.mk (v := .slice _ _ _) rfl rfl)) ?_)
                refine WL.wantG rfl rfl rfl rfl (WL1.callP rfl rfl rfl (.cons (.mk (v := .slice _ _ _) rfl rfl) (.cons (.mk (v := .slice _ _ _) rfl rfl) .nil)) (fun w hw => sameblocks_t (a := qa) (b := bG ds l 0) (Sl.of_vec hw (by repeat (first | exact .head _ | apply List.Mem.tail))) (Sl.of_vec hw (.head _)) hqal hbl hq0) ?_)
                refine WL.want rfl (WL1.give rfl (g_pickT rfl (.mk rfl rfl) (.mk (v := .bool _) rfl rfl)) ?_)
                refine WL.want rfl (WL1.give rfl (g_assign rfl (.mk (v := .bool _) rfl rfl)) ?_)
                refine WL.nil ?_
                (refine hK _ _ ?_; clear hK)
                refine WC.ret ?_
                exact fun w' hw' => ⟨rfl, hw'.1⟩
              · obtain ⟨i, rfl⟩ : ∃ i, r = i + 1 := ⟨r - 1, by omega⟩
                have hri : (((i + 1 : Nat) : Int) - 1) = (i : Int) := by omega
                have hsubi : IntKind.i64.wrap ((i : Int) - 1) = (i : Int) - 1 := IntWalk.i64_in _ (by omega)
                have hone : Sl w 9 (.slice (subA B d i 9) (i + 1 - i) (d - i)) 1 (cvs [nth l i]) := by
                  have := hsb.sub (l := i) (h := i + 1) (by omega) (by omega)
                  rw [cvs_one_at (by omega)] at this
                  exact slE (by omega) this
                have hfr1 := fun w' hb => from_n (.slice (subA B d i 9) (i + 1 - i) (d - i)) [nth l i] w' (hone.below (w' := w') hb) (by show 1 ≤ 1000000; omega)
                obtain ⟨g2, hg2⟩ : ∃ g2, g2 = numL (difP (bG ds l i) (bG ds l (i + 1))) (ds.length + 3) := ⟨_, rfl⟩
                have hap1 := fun w' v v2 h1 h2 => apply_k (w := w') (vp := v) (vl := v2) (ps := bG ds l (i + 1)) (qs := bG ds l i) (l := [nth l i]) (n := ds.length) (m := ds.length + 3) (t := 1) (k := g2.length) (ds := g2) (bG_len ds l _) rfl rfl hd1 hd2 (by omega) (bG_group l _ hd1 hd2) (okC_one ho (by omega)) (bG_step (by omega)) hg2.symm rfl h1 h2
                clear hg2 hbe hq0
                rw [hri]
                (refine WC.seq ?_; intro K hK)
                (refine WC.seq ?_; intro K hK)
                refine WC.region rfl ?_
                refine WL.want rfl (WL1.give rfl (g_move rfl (.mk (v := .int _ _) rfl rfl)) ?_)
                refine WL.want rfl (WL1.give rfl (g_ge rfl (.mk rfl rfl) (.mk rfl rfl) (decide_eq_true (by omega))) ?_)
                refine WL.nil ?_
                (refine hK _ _ ?_; clear hK)
                refine WC.cond_true (.mk rfl rfl) ?_
                refine WC.skip ?_
                (refine hK _ _ ?_; clear hK)
                (refine WC.seq ?_; intro K hK)
                refine WC.block ?_
                (refine WC.seq ?_; intro K hK)
                refine WC.region rfl ?_
                refine WL.want rfl (WL1.give rfl (g_move rfl (.mk (v := .slice _ _ _) rfl rfl)) ?_)
                refine WL.want rfl (WL1.give rfl (g_move rfl (.mk (v := .slice _ _ _) rfl rfl)) ?_)
                refine WL.want rfl (WL1.give rfl (g_move rfl (.mk (v := .int _ _) rfl rfl)) ?_)
                refine WL.want rfl (WL1.give rfl (g_move rfl (.mk (v := .int _ _) rfl rfl)) ?_)
                refine WL.want rfl (WL1.give rfl (g_add rfl (.mk rfl rfl) (.mk rfl rfl) (IntWalk.i64_in _ (by omega))) ?_)
                refine WL.want rfl (WL1.give rfl (g_slice (sz := 9) rfl (.mk rfl rfl) rfl rfl ⟨(.mk rfl rfl), rfl⟩ ⟨(.mk rfl rfl), (Int.toNat_of_nonneg (by omega)).symm⟩ (by omega) (by omega)) ?_)
                (refine WL.want rfl (WL1.callN rfl rfl rfl (.cons (.mk (v := .slice _ _ _) rfl rfl) .nil) (fun w hw => hfr1 w hw.1) ?_); rintro _ _ ⟨Af, cf, rfl, rfl⟩)
                (refine WL.want rfl (WL1.callN rfl rfl rfl (.cons (.mk (v := .slice _ _ _) rfl rfl) (.cons (.mk (v := .slice _ _ _) rfl rfl) .nil)) (fun w hw => hap1 w _ _ (Sl.of_vec hw (by repeat (first | exact .head _ | apply List.Mem.tail))) (Sl.of_vec hw (.head _))) ?_); rintro _ _ ⟨A2, c2, F2, f2, rfl, rfl⟩)
                refine WL.want rfl (WL1.give rfl (g_move rfl (.mk (v := .tuple _) rfl rfl)) ?_)
                refine WL.want rfl (WL1.give rfl (g_extract rfl (.mk rfl rfl) rfl) ?_)
                refine WL.want rfl (WL1.give rfl (g_extract rfl (.mk rfl rfl) rfl) ?_)
                refine WL.want rfl (WL1.give rfl (g_extract rfl (.mk rfl rfl) rfl) ?_)
                refine WL.want rfl (WL1.give rfl (g_assign rfl (.mk (v := .slice _ _ _) rfl rfl)) ?_)
                refine WL.want rfl (WL1.give rfl (g_assign rfl (.mk (v := .int _ _) rfl rfl)) ?_)
                refine WL.nil ?_
                (refine hK _ _ ?_; clear hK)
                (refine WC.seq ?_; intro K hK)
                refine WC.region rfl ?_
                refine WL.want rfl (WL1.give rfl (g_move rfl (.mk (v := .int _ _) rfl rfl)) ?_)
                refine WL.want rfl (WL1.give rfl (g_ne rfl (.mk rfl rfl) (.mk rfl rfl) (decide_eq_false (by omega))) ?_)
                refine WL.nil ?_
                (refine hK _ _ ?_; clear hK)
                refine WC.cond_false (.mk rfl rfl) ?_
                refine WC.skip ?_
                (refine hK _ _ ?_; clear hK)
                refine WC.region rfl ?_
                refine WL.want rfl (WL1.give rfl (g_move rfl (.mk (v := .int _ _) rfl rfl)) ?_)
                refine WL.want rfl (WL1.give rfl (g_sub rfl (.mk rfl rfl) (.mk rfl rfl) hsubi) ?_)
                refine WL.want rfl (WL1.give rfl (g_assign rfl (.mk (v := .int _ _) rfl rfl)) ?_)
                refine WL.nil ?_
                exact ⟨i, A2, c2, (by repeat (first | exact trivial | refine ⟨rfl, ?_⟩)), Imp.pick (A := vec A2 (ds.length + 3) c2 38 8 (kvs (bG ds l i))) (by repeat (first | exact .head | apply Take.tail)) (Imp.pick (A := vec Aa (ds.length + 3) ca 38 8 (kvs qa)) (by repeat (first | exact .head | apply Take.tail)) (Imp.nil _)), by omega, by omega⟩
        · have hwb := fun w' hb => whole_bad (.slice A ds.length c) ds w' (hs.below (w' := w') hb) hd
          refine calls_wc (args := [.slice A ds.length c, .slice B l.length d, iv m]) [6] [] Try.func4 rfl Try.ntmps4 rfl rfl rfl rfl (H.refl _) ?_
          (refine WC.seq ?_; intro K hK)
          refine WC.region rfl ?_
          refine WL.want rfl (WL1.give rfl (g_assign rfl (.mk (v := .bool _) rfl rfl)) ?_)
          refine WL.nil ?_
          (refine hK _ _ ?_; clear hK)
          (refine WC.seq ?_; intro K hK)
          (refine WC.seq ?_; intro K hK)
          refine WC.region rfl ?_
          refine WL.want rfl (WL1.callP rfl rfl rfl .nil (fun w hw => awake_e w) ?_)
          refine WL.want rfl (WL1.give rfl (g_notT rfl (.mk rfl rfl)) ?_)
          refine WL.nil ?_
          (refine hK _ _ ?_; clear hK)
          refine WC.cond_false (.mk rfl rfl) ?_
          refine WC.skip ?_
          (refine hK _ _ ?_; clear hK)
          (refine WC.seq ?_; intro K hK)
          (refine WC.seq ?_; intro K hK)
          refine WC.region rfl ?_
          refine WL.want rfl (WL1.give rfl (g_move rfl (.mk (v := .slice _ _ _) rfl rfl)) ?_)
          refine WL.want rfl (WL1.give rfl (g_len rfl (.mk rfl rfl) rfl) ?_)
          refine WL.want rfl (WL1.give rfl (g_gt rfl (.mk rfl rfl) (.mk rfl rfl) (decide_eq_false (by omega))) ?_)
          refine WL.nil ?_
          (refine hK _ _ ?_; clear hK)
          refine WC.cond_false (.mk rfl rfl) ?_
          refine WC.skip ?_
          (refine hK _ _ ?_; clear hK)
          (refine WC.seq ?_; intro K hK)
          refine WC.region rfl ?_
          refine WL.want rfl (WL1.give rfl (g_move rfl (.mk (v := .int _ _) rfl rfl)) ?_)
          refine WL.want rfl (WL1.callP rfl rfl rfl (.cons (.mk (v := .int _ _) rfl rfl) .nil) (fun w hw => hzb w) ?_)
          refine WL.want rfl (WL1.give rfl (g_assign rfl (.mk (v := .slice _ _ _) rfl rfl)) ?_)
          refine WL.nil ?_
          (refine hK _ _ ?_; clear hK)
          (refine WC.seq ?_; intro K hK)
          (refine WC.seq ?_; intro K hK)
          refine WC.region rfl ?_
          refine WL.want rfl (WL1.give rfl (g_move rfl (.mk (v := .int _ _) rfl rfl)) ?_)
          refine WL.want rfl (WL1.give rfl (g_lt rfl (.mk rfl rfl) (.mk rfl rfl) (decide_eq_true (by omega))) ?_)
          refine WL.want rfl (WL1.give rfl (g_move rfl (.mk (v := .bool _) rfl rfl)) ?_)
          refine WL.skipG rfl rfl rfl rfl rfl rfl ?_
          refine WL.skipG rfl rfl rfl rfl rfl rfl ?_
          refine WL.want rfl (WL1.give rfl (g_pickT rfl (.mk rfl rfl) (.mk (v := .bool _) rfl rfl)) ?_)
          refine WL.nil ?_
          (refine hK _ _ ?_; clear hK)
          refine WC.cond_true (.mk rfl rfl) ?_
          (refine WC.seq ?_; intro K hK)
          refine WC.region rfl ?_
          refine WL.want rfl (WL1.give rfl (g_move rfl (.mk (v := .slice _ _ _) rfl rfl)) ?_)
          refine WL.want rfl (WL1.give rfl (g_len rfl (.mk rfl rfl) rfl) ?_)
          refine WL.want rfl (WL1.give rfl (g_ne rfl (.mk rfl rfl) (.mk rfl rfl) (decide_eq_false (by omega))) ?_)
          refine WL.nil ?_
          (refine hK _ _ ?_; clear hK)
          refine WC.cond_false (.mk rfl rfl) ?_
          refine WC.skip ?_
          (refine hK _ _ ?_; clear hK)
          (refine WC.seq ?_; intro K hK)
          refine WC.region rfl ?_
          refine WL.want rfl (WL1.give rfl (g_move rfl (.mk (v := .slice _ _ _) rfl rfl)) ?_)
          refine WL.want rfl (WL1.callP rfl rfl rfl (.cons (.mk (v := .slice _ _ _) rfl rfl) .nil) (fun w hw => hwb w hw.1) ?_)
          refine WL.want rfl (WL1.give rfl (g_move rfl (.mk (v := .tuple _) rfl rfl)) ?_)
          refine WL.want rfl (WL1.give rfl (g_extract rfl (.mk rfl rfl) rfl) ?_)
          refine WL.want rfl (WL1.give rfl (g_extract rfl (.mk rfl rfl) rfl) ?_)
          refine WL.want rfl (WL1.give rfl (g_assign rfl (.mk (v := .slice _ _ _) rfl rfl)) ?_)
          refine WL.want rfl (WL1.give rfl (g_assign rfl (.mk (v := .bool _) rfl rfl)) ?_)
          refine WL.nil ?_
          (refine hK _ _ ?_; clear hK)
          (refine WC.seq ?_; intro K hK)
          (refine WC.seq ?_; intro K hK)
          refine WC.region rfl ?_
          refine WL.want rfl (WL1.give rfl (g_move rfl (.mk (v := .bool _) rfl rfl)) ?_)
          refine WL.want rfl (WL1.give rfl (g_notF rfl (.mk rfl rfl)) ?_)
          refine WL.nil ?_
          (refine hK _ _ ?_; clear hK)
          refine WC.cond_true (.mk rfl rfl) ?_
          (refine WC.seq ?_; intro K hK)
          refine WC.region rfl ?_
          refine WL.want rfl (WL1.give rfl (g_assign rfl (.mk (v := .bool _) rfl rfl)) ?_)
          refine WL.nil ?_
          (refine hK _ _ ?_; clear hK)
          refine WC.ret ?_
          exact fun w' hw' => ⟨rfl, hw'.1⟩
      · have h16 : 16 < m := by omega
        by_cases hd : 1 ≤ ds.length ∧ ds.length ≤ 13
        · obtain ⟨hd1, hd2⟩ := hd
          have hwh := fun w' hb => whole_n (.slice A ds.length c) ds w' (hs.below (w' := w') hb) hd1 hd2
          have hfr := fun w' hb => from_n (.slice B l.length d) l w' (hsb.below (w' := w') hb) (by omega)
          have hgl : (ds ++ enc ds).length = ds.length + 3 := by rw [List.length_append, enc3]
          have hgg : isGroup (ds ++ enc ds) = true := group_enc hd1 hd2
          cases ho : okC ((ds.length + 3 : Nat) : Int) l with
          | false =>
            have hap : ∀ w' v v2, Sl w' 8 v (ds.length + 3) (kvs (ds ++ enc ds)) → Sl w' 9 v2 l.length (cvs l) → Calls Try.prog 12 #[v, v2] w' fun e w2 => e = .returned (.tuple #[.slice none 0 0, .slice none 0 0, iv 1]) ∧ Below w'.heap.size w' w2 := fun w' v v2 h1 h2 => apply_bad v v2 (ds ++ enc ds) l w' (by rw [hgl]; exact h1) h2 (by omega) (fun q => by have := q.2; rw [hgl, ho] at this; exact absurd this Bool.false_ne_true)
            clear hgl hgg
            refine calls_wc (args := [.slice A ds.length c, .slice B l.length d, iv m]) [6] [] Try.func4 rfl Try.ntmps4 rfl rfl rfl rfl (H.refl _) ?_
            (refine WC.seq ?_; intro K hK)
            refine WC.region rfl ?_
            refine WL.want rfl (WL1.give rfl (g_assign rfl (.mk (v := .bool _) rfl rfl)) ?_)
            refine WL.nil ?_
            (refine hK _ _ ?_; clear hK)
            (refine WC.seq ?_; intro K hK)
            (refine WC.seq ?_; intro K hK)
            refine WC.region rfl ?_
            refine WL.want rfl (WL1.callP rfl rfl rfl .nil (fun w hw => awake_e w) ?_)
            refine WL.want rfl (WL1.give rfl (g_notT rfl (.mk rfl rfl)) ?_)
            refine WL.nil ?_
            (refine hK _ _ ?_; clear hK)
            refine WC.cond_false (.mk rfl rfl) ?_
            refine WC.skip ?_
            (refine hK _ _ ?_; clear hK)
            (refine WC.seq ?_; intro K hK)
            (refine WC.seq ?_; intro K hK)
            refine WC.region rfl ?_
            refine WL.want rfl (WL1.give rfl (g_move rfl (.mk (v := .slice _ _ _) rfl rfl)) ?_)
            refine WL.want rfl (WL1.give rfl (g_len rfl (.mk rfl rfl) rfl) ?_)
            refine WL.want rfl (WL1.give rfl (g_gt rfl (.mk rfl rfl) (.mk rfl rfl) (decide_eq_false (by omega))) ?_)
            refine WL.nil ?_
            (refine hK _ _ ?_; clear hK)
            refine WC.cond_false (.mk rfl rfl) ?_
            refine WC.skip ?_
            (refine hK _ _ ?_; clear hK)
            (refine WC.seq ?_; intro K hK)
            refine WC.region rfl ?_
            refine WL.want rfl (WL1.give rfl (g_move rfl (.mk (v := .int _ _) rfl rfl)) ?_)
            refine WL.want rfl (WL1.callP rfl rfl rfl (.cons (.mk (v := .int _ _) rfl rfl) .nil) (fun w hw => hzb w) ?_)
            refine WL.want rfl (WL1.give rfl (g_assign rfl (.mk (v := .slice _ _ _) rfl rfl)) ?_)
            refine WL.nil ?_
            (refine hK _ _ ?_; clear hK)
            (refine WC.seq ?_; intro K hK)
            (refine WC.seq ?_; intro K hK)
            refine WC.region rfl ?_
            refine WL.want rfl (WL1.give rfl (g_move rfl (.mk (v := .int _ _) rfl rfl)) ?_)
            refine WL.want rfl (WL1.give rfl (g_lt rfl (.mk rfl rfl) (.mk rfl rfl) (decide_eq_false (by omega))) ?_)
            refine WL.want rfl (WL1.give rfl (g_move rfl (.mk (v := .bool _) rfl rfl)) ?_)
            refine WL.wantG rfl rfl rfl rfl (WL1.give rfl (g_move rfl (.mk (v := .int _ _) rfl rfl)) ?_)
            refine WL.wantG rfl rfl rfl rfl (WL1.give rfl (g_gt rfl (.mk rfl rfl) (.mk rfl rfl) (decide_eq_true (by omega))) ?_)
            refine WL.want rfl (WL1.give rfl (g_pickF rfl (.mk rfl rfl) (.mk (v := .bool _) rfl rfl)) ?_)
            refine WL.nil ?_
            (refine hK _ _ ?_; clear hK)
            refine WC.cond_true (.mk rfl rfl) ?_
            (refine WC.seq ?_; intro K hK)
            refine WC.region rfl ?_
            refine WL.want rfl (WL1.give rfl (g_move rfl (.mk (v := .slice _ _ _) rfl rfl)) ?_)
            refine WL.want rfl (WL1.give rfl (g_len rfl (.mk rfl rfl) rfl) ?_)
            refine WL.want rfl (WL1.give rfl (g_ne rfl (.mk rfl rfl) (.mk rfl rfl) (decide_eq_false (by omega))) ?_)
            refine WL.nil ?_
            (refine hK _ _ ?_; clear hK)
            refine WC.cond_false (.mk rfl rfl) ?_
            refine WC.skip ?_
            (refine hK _ _ ?_; clear hK)
            (refine WC.seq ?_; intro K hK)
            refine WC.region rfl ?_
            refine WL.want rfl (WL1.give rfl (g_move rfl (.mk (v := .slice _ _ _) rfl rfl)) ?_)
            (refine WL.want rfl (WL1.callN rfl rfl rfl (.cons (.mk (v := .slice _ _ _) rfl rfl) .nil) (fun w hw => hwh w hw.1) ?_); rintro _ _ ⟨Ap, cp, rfl, rfl⟩)
            refine WL.want rfl (WL1.give rfl (g_move rfl (.mk (v := .tuple _) rfl rfl)) ?_)
            refine WL.want rfl (WL1.give rfl (g_extract rfl (.mk rfl rfl) rfl) ?_)
            refine WL.want rfl (WL1.give rfl (g_extract rfl (.mk rfl rfl) rfl) ?_)
            refine WL.want rfl (WL1.give rfl (g_assign rfl (.mk (v := .slice _ _ _) rfl rfl)) ?_)
            refine WL.want rfl (WL1.give rfl (g_assign rfl (.mk (v := .bool _) rfl rfl)) ?_)
            refine WL.nil ?_
            (refine hK _ _ ?_; clear hK)
            (refine WC.seq ?_; intro K hK)
            (refine WC.seq ?_; intro K hK)
            refine WC.region rfl ?_
            refine WL.want rfl (WL1.give rfl (g_move rfl (.mk (v := .bool _) rfl rfl)) ?_)
            refine WL.want rfl (WL1.give rfl (g_notT rfl (.mk rfl rfl)) ?_)
            refine WL.nil ?_
            (refine hK _ _ ?_; clear hK)
            refine WC.cond_false (.mk rfl rfl) ?_
            refine WC.skip ?_
            (refine hK _ _ ?_; clear hK)
            (refine WC.seq ?_; intro K hK)
            refine WC.region rfl ?_
            refine WL.want rfl (WL1.give rfl (g_move rfl (.mk (v := .slice _ _ _) rfl rfl)) ?_)
            refine WL.want rfl (WL1.give rfl (g_move rfl (.mk (v := .slice _ _ _) rfl rfl)) ?_)
            (refine WL.want rfl (WL1.callN rfl rfl rfl (.cons (.mk (v := .slice _ _ _) rfl rfl) .nil) (fun w hw => hfr w hw.1) ?_); rintro _ _ ⟨Af, cf, rfl, rfl⟩)
            refine WL.want rfl (WL1.callP rfl rfl rfl (.cons (.mk (v := .slice _ _ _) rfl rfl) (.cons (.mk (v := .slice _ _ _) rfl rfl) .nil)) (fun w hw => hap w _ _ (Sl.of_vec hw (by repeat (first | exact .head _ | apply List.Mem.tail))) (Sl.of_vec hw (.head _))) ?_)
            refine WL.want rfl (WL1.give rfl (g_move rfl (.mk (v := .tuple _) rfl rfl)) ?_)
            refine WL.want rfl (WL1.give rfl (g_extract rfl (.mk rfl rfl) rfl) ?_)
            refine WL.want rfl (WL1.give rfl (g_extract rfl (.mk rfl rfl) rfl) ?_)
            refine WL.want rfl (WL1.give rfl (g_extract rfl (.mk rfl rfl) rfl) ?_)
            refine WL.want rfl (WL1.give rfl (g_assign rfl (.mk (v := .slice _ _ _) rfl rfl)) ?_)
            refine WL.want rfl (WL1.give rfl (g_assign rfl (.mk (v := .slice _ _ _) rfl rfl)) ?_)
            refine WL.want rfl (WL1.give rfl (g_assign rfl (.mk (v := .int _ _) rfl rfl)) ?_)
            refine WL.nil ?_
            (refine hK _ _ ?_; clear hK)
            (refine WC.seq ?_; intro K hK)
            (refine WC.seq ?_; intro K hK)
            refine WC.region rfl ?_
            refine WL.want rfl (WL1.give rfl (g_move rfl (.mk (v := .int _ _) rfl rfl)) ?_)
            refine WL.want rfl (WL1.give rfl (g_ne rfl (.mk rfl rfl) (.mk rfl rfl) (decide_eq_true (by omega))) ?_)
            refine WL.nil ?_
            (refine hK _ _ ?_; clear hK)
            refine WC.cond_true (.mk rfl rfl) ?_
            (refine WC.seq ?_; intro K hK)
            refine WC.region rfl ?_
            refine WL.want rfl (WL1.give rfl (g_move rfl (.mk (v := .int _ _) rfl rfl)) ?_)
            refine WL.want rfl (WL1.give rfl (g_eq rfl (.mk rfl rfl) (.mk rfl rfl) (decide_eq_true (by omega))) ?_)
            refine WL.want rfl (WL1.give rfl (g_assign rfl (.mk (v := .bool _) rfl rfl)) ?_)
            refine WL.nil ?_
            (refine hK _ _ ?_; clear hK)
            refine WC.ret ?_
            exact fun w' hw' => ⟨rfl, hw'.1⟩
          | true =>
            obtain ⟨qa, hqa⟩ : ∃ qa, qa = apL (ds ++ enc ds) l := ⟨_, rfl⟩
            obtain ⟨g, hg⟩ : ∃ g, g = numL (difP qa (ds ++ enc ds)) (ds.length + 3) := ⟨_, rfl⟩
            have hap := fun w' v v2 h1 h2 => apply_k (w := w') (vp := v) (vl := v2) (ps := ds ++ enc ds) (qs := qa) (l := l) (n := ds.length) (m := ds.length + 3) (t := l.length) (k := g.length) (ds := g) hgl rfl rfl hd1 hd2 (by omega) hgg ho hqa.symm hg.symm rfl h1 h2
            have hqg : isGroup qa = true := by rw [hqa]; exact group_apL hgl hd1 hd2
            have hqal : qa.length = ds.length + 3 := by
              rw [hqa]; unfold apL; rw [List.length_append, enc3, datP_len, List.length_take]; omega
            have hqc : ∀ w' v, Sl w' 8 v (ds.length + 3) (kvs qa) → Calls Try.prog 18 #[v] w' fun e w2 => e = .returned (.bool true) ∧ Below w'.heap.size w' w2 := fun w' v h => by
              have := rcheck_e v qa w' (by rw [hqal]; exact h) (by omega)
              rwa [hqg] at this
            have hz0 : Dst l → qa = bG ds l 0 := fun h => by rw [hqa, bG_zero h]
            have hbe := bG_end ds l
            have hmade : (madeCells (Value.bool false).cells ((ds.length + 3) * 1)).toList = bls (sn (ds.length + 3) l 0) := bls_made _
            clear hg hqa hqg hgg hgl
            refine calls_wc (args := [.slice A ds.length c, .slice B l.length d, iv m]) [6] [] Try.func4 rfl Try.ntmps4 rfl rfl rfl rfl (H.refl _) ?_
            (refine WC.seq ?_; intro K hK)
            refine WC.region rfl ?_
            refine WL.want rfl (WL1.give rfl (g_assign rfl (.mk (v := .bool _) rfl rfl)) ?_)
            refine WL.nil ?_
            (refine hK _ _ ?_; clear hK)
            (refine WC.seq ?_; intro K hK)
            (refine WC.seq ?_; intro K hK)
            refine WC.region rfl ?_
            refine WL.want rfl (WL1.callP rfl rfl rfl .nil (fun w hw => awake_e w) ?_)
            refine WL.want rfl (WL1.give rfl (g_notT rfl (.mk rfl rfl)) ?_)
            refine WL.nil ?_
            (refine hK _ _ ?_; clear hK)
            refine WC.cond_false (.mk rfl rfl) ?_
            refine WC.skip ?_
            (refine hK _ _ ?_; clear hK)
            (refine WC.seq ?_; intro K hK)
            (refine WC.seq ?_; intro K hK)
            refine WC.region rfl ?_
            refine WL.want rfl (WL1.give rfl (g_move rfl (.mk (v := .slice _ _ _) rfl rfl)) ?_)
            refine WL.want rfl (WL1.give rfl (g_len rfl (.mk rfl rfl) rfl) ?_)
            refine WL.want rfl (WL1.give rfl (g_gt rfl (.mk rfl rfl) (.mk rfl rfl) (decide_eq_false (by omega))) ?_)
            refine WL.nil ?_
            (refine hK _ _ ?_; clear hK)
            refine WC.cond_false (.mk rfl rfl) ?_
            refine WC.skip ?_
            (refine hK _ _ ?_; clear hK)
            (refine WC.seq ?_; intro K hK)
            refine WC.region rfl ?_
            refine WL.want rfl (WL1.give rfl (g_move rfl (.mk (v := .int _ _) rfl rfl)) ?_)
            refine WL.want rfl (WL1.callP rfl rfl rfl (.cons (.mk (v := .int _ _) rfl rfl) .nil) (fun w hw => hzb w) ?_)
            refine WL.want rfl (WL1.give rfl (g_assign rfl (.mk (v := .slice _ _ _) rfl rfl)) ?_)
            refine WL.nil ?_
            (refine hK _ _ ?_; clear hK)
            (refine WC.seq ?_; intro K hK)
            (refine WC.seq ?_; intro K hK)
            refine WC.region rfl ?_
            refine WL.want rfl (WL1.give rfl (g_move rfl (.mk (v := .int _ _) rfl rfl)) ?_)
            refine WL.want rfl (WL1.give rfl (g_lt rfl (.mk rfl rfl) (.mk rfl rfl) (decide_eq_false (by omega))) ?_)
            refine WL.want rfl (WL1.give rfl (g_move rfl (.mk (v := .bool _) rfl rfl)) ?_)
            refine WL.wantG rfl rfl rfl rfl (WL1.give rfl (g_move rfl (.mk (v := .int _ _) rfl rfl)) ?_)
            refine WL.wantG rfl rfl rfl rfl (WL1.give rfl (g_gt rfl (.mk rfl rfl) (.mk rfl rfl) (decide_eq_true (by omega))) ?_)
            refine WL.want rfl (WL1.give rfl (g_pickF rfl (.mk rfl rfl) (.mk (v := .bool _) rfl rfl)) ?_)
            refine WL.nil ?_
            (refine hK _ _ ?_; clear hK)
            refine WC.cond_true (.mk rfl rfl) ?_
            (refine WC.seq ?_; intro K hK)
            refine WC.region rfl ?_
            refine WL.want rfl (WL1.give rfl (g_move rfl (.mk (v := .slice _ _ _) rfl rfl)) ?_)
            refine WL.want rfl (WL1.give rfl (g_len rfl (.mk rfl rfl) rfl) ?_)
            refine WL.want rfl (WL1.give rfl (g_ne rfl (.mk rfl rfl) (.mk rfl rfl) (decide_eq_false (by omega))) ?_)
            refine WL.nil ?_
            (refine hK _ _ ?_; clear hK)
            refine WC.cond_false (.mk rfl rfl) ?_
            refine WC.skip ?_
            (refine hK _ _ ?_; clear hK)
            (refine WC.seq ?_; intro K hK)
            refine WC.region rfl ?_
            refine WL.want rfl (WL1.give rfl (g_move rfl (.mk (v := .slice _ _ _) rfl rfl)) ?_)
            (refine WL.want rfl (WL1.callN rfl rfl rfl (.cons (.mk (v := .slice _ _ _) rfl rfl) .nil) (fun w hw => hwh w hw.1) ?_); rintro _ _ ⟨Ap, cp, rfl, rfl⟩)
            refine WL.want rfl (WL1.give rfl (g_move rfl (.mk (v := .tuple _) rfl rfl)) ?_)
            refine WL.want rfl (WL1.give rfl (g_extract rfl (.mk rfl rfl) rfl) ?_)
            refine WL.want rfl (WL1.give rfl (g_extract rfl (.mk rfl rfl) rfl) ?_)
            refine WL.want rfl (WL1.give rfl (g_assign rfl (.mk (v := .slice _ _ _) rfl rfl)) ?_)
            refine WL.want rfl (WL1.give rfl (g_assign rfl (.mk (v := .bool _) rfl rfl)) ?_)
            refine WL.nil ?_
            (refine hK _ _ ?_; clear hK)
            (refine WC.seq ?_; intro K hK)
            (refine WC.seq ?_; intro K hK)
            refine WC.region rfl ?_
            refine WL.want rfl (WL1.give rfl (g_move rfl (.mk (v := .bool _) rfl rfl)) ?_)
            refine WL.want rfl (WL1.give rfl (g_notT rfl (.mk rfl rfl)) ?_)
            refine WL.nil ?_
            (refine hK _ _ ?_; clear hK)
            refine WC.cond_false (.mk rfl rfl) ?_
            refine WC.skip ?_
            (refine hK _ _ ?_; clear hK)
            (refine WC.seq ?_; intro K hK)
            refine WC.region rfl ?_
            refine WL.want rfl (WL1.give rfl (g_move rfl (.mk (v := .slice _ _ _) rfl rfl)) ?_)
            refine WL.want rfl (WL1.give rfl (g_move rfl (.mk (v := .slice _ _ _) rfl rfl)) ?_)
            (refine WL.want rfl (WL1.callN rfl rfl rfl (.cons (.mk (v := .slice _ _ _) rfl rfl) .nil) (fun w hw => hfr w hw.1) ?_); rintro _ _ ⟨Af, cf, rfl, rfl⟩)
            (refine WL.want rfl (WL1.callN rfl rfl rfl (.cons (.mk (v := .slice _ _ _) rfl rfl) (.cons (.mk (v := .slice _ _ _) rfl rfl) .nil)) (fun w hw => hap w _ _ (Sl.of_vec hw (by repeat (first | exact .head _ | apply List.Mem.tail))) (Sl.of_vec hw (.head _))) ?_); rintro _ _ ⟨Aa, ca, Fa, fa, rfl, rfl⟩)
            refine WL.want rfl (WL1.give rfl (g_move rfl (.mk (v := .tuple _) rfl rfl)) ?_)
            refine WL.want rfl (WL1.give rfl (g_extract rfl (.mk rfl rfl) rfl) ?_)
            refine WL.want rfl (WL1.give rfl (g_extract rfl (.mk rfl rfl) rfl) ?_)
            refine WL.want rfl (WL1.give rfl (g_extract rfl (.mk rfl rfl) rfl) ?_)
            refine WL.want rfl (WL1.give rfl (g_assign rfl (.mk (v := .slice _ _ _) rfl rfl)) ?_)
            refine WL.want rfl (WL1.give rfl (g_assign rfl (.mk (v := .slice _ _ _) rfl rfl)) ?_)
            refine WL.want rfl (WL1.give rfl (g_assign rfl (.mk (v := .int _ _) rfl rfl)) ?_)
            refine WL.nil ?_
            (refine hK _ _ ?_; clear hK)
            (refine WC.seq ?_; intro K hK)
            (refine WC.seq ?_; intro K hK)
            refine WC.region rfl ?_
            refine WL.want rfl (WL1.give rfl (g_move rfl (.mk (v := .int _ _) rfl rfl)) ?_)
            refine WL.want rfl (WL1.give rfl (g_ne rfl (.mk rfl rfl) (.mk rfl rfl) (decide_eq_false (by omega))) ?_)
            refine WL.nil ?_
            (refine hK _ _ ?_; clear hK)
            refine WC.cond_false (.mk rfl rfl) ?_
            refine WC.skip ?_
            (refine hK _ _ ?_; clear hK)
            (refine WC.seq ?_; intro K hK)
            refine WC.region rfl ?_
            refine WL.want rfl (WL1.give rfl (g_move rfl (.mk (v := .slice _ _ _) rfl rfl)) ?_)
            refine WL.want rfl (WL1.give rfl (g_len rfl (.mk rfl rfl) rfl) ?_)
            refine WL.want rfl (WL1.make elBo rfl rfl (.mk rfl rfl) (.mk rfl rfl) rfl rfl (by omega) (by unfold maxLen; omega) (fun b71 => ?_))
            refine WL.want rfl (WL1.give rfl (g_assign rfl (.mk (v := .slice _ _ _) rfl rfl)) ?_)
            refine WL.nil ?_
            (refine hK _ _ ?_; clear hK)
            (refine WC.seq ?_; intro K hK)
            (refine WC.seq ?_; intro K hK)
            refine WC.region rfl ?_
            refine WL.want rfl (WL1.give rfl (g_move rfl (.mk (v := .slice _ _ _) rfl rfl)) ?_)
            refine WL.want rfl (WL1.give rfl (g_len rfl (.mk rfl rfl) rfl) ?_)
            refine WL.want rfl (WL1.give rfl (g_move rfl (.mk (v := .int _ _) rfl rfl)) ?_)
            refine WL.nil ?_
            (refine hK _ _ ?_; clear hK)
            refine WC.block ?_
            rw [hmade]
            refine WC.loopF (fun i : Nat => [(74, iv i), (73, iv l.length), (72, .slice B l.length d), (13, .slice (some ⟨b71, 0, none⟩) (ds.length + 3) (ds.length + 3)), (10, .slice Aa (ds.length + 3) ca), (8, .slice Ap (ds.length + 3) cp), (1, .slice B l.length d)]) (fun i => [vec (some ⟨b71, 0, none⟩) (ds.length + 3) (ds.length + 3) 4 1 (bls (sn (ds.length + 3) l i)), vec Aa (ds.length + 3) ca 38 8 (kvs qa), vec Ap (ds.length + 3) cp 38 8 (kvs (ds ++ enc ds))]) (fun i => i ≤ l.length ∧ Dst (l.take i)) (fun i => l.length - i) 0 (by repeat (first | exact trivial | refine ⟨rfl, ?_⟩)) (Imp.pick (A := vec (some ⟨b71, 0, none⟩) (ds.length + 3) (ds.length + 3) 4 1 (bls (sn (ds.length + 3) l 0))) (by repeat (first | exact .head | apply Take.tail)) (Imp.pick (A := vec Aa (ds.length + 3) ca 38 8 (kvs qa)) (by repeat (first | exact .head | apply Take.tail)) (Imp.pick (A := vec Ap (ds.length + 3) cp 38 8 (kvs (ds ++ enc ds))) (by repeat (first | exact .head | apply Take.tail)) (Imp.nil _)))) ⟨by omega, by unfold Dst; rw [List.take_zero]; exact .nil⟩ ?_
            rintro i U ⟨hi, hD⟩
            clear hwh hfr hap hmade
            by_cases hlt : i < l.length
            · have hgd := chg_row (l := l) (k := i) hlt
              obtain ⟨q1, q2⟩ := okC_each ho hlt
              have hds := dst_snoc hlt hD
              have hsn : (sn (ds.length + 3) l i).set (nth l i).s.toNat true = sn (ds.length + 3) l (i + 1) := rfl
              have hnn := fun h => sn_not (m := ds.length + 3) (l := l) (i := i) (z := (nth l i).s.toNat) (by omega) h (by omega)
              have hsl := sn_len (ds.length + 3) l i
              obtain ⟨x, hx⟩ : ∃ x, x = nth l i := ⟨_, rfl⟩
              rw [← hx] at hgd q1 q2 hds hsn hnn
              obtain ⟨z, hzz⟩ : ∃ z : Nat, x.s = z := ⟨x.s.toNat, by omega⟩
              have hz2 : x.s.toNat = z := by omega
              rw [hz2] at hds hsn hnn
              have hzn2 : z < ds.length + 3 := by omega
              have g0 : x.cells[0 + (0 + 0)]? = some (iv z) := by rw [← hzz]; rfl
              obtain ⟨S, hS⟩ : ∃ S, S = sn (ds.length + 3) l i := ⟨_, rfl⟩
              rw [← hS] at hsn hnn hsl ⊢
              have gs := bls_get (l := S) (k := z) (by omega)
              have hbl : (bls S).length = ds.length + 3 := by rw [bls_len, hsl]
              clear hx hzz hS hz0 hbe hc hm hmd hcd q1 q2
              cases hsz : nth S z with
              | true =>
                rw [hsz] at gs
                (refine WC.seq ?_; intro K hK)
                refine WC.region rfl ?_
                refine WL.want rfl (WL1.give rfl (g_lt rfl (.mk rfl rfl) (.mk rfl rfl) (decide_eq_true (by omega))) ?_)
                refine WL.nil ?_
                (refine hK _ _ ?_; clear hK)
                (refine WC.seq ?_; intro K hK)
                refine WC.cond_true (.mk rfl rfl) ?_
                refine WC.skip ?_
                (refine hK _ _ ?_; clear hK)
                (refine WC.seq ?_; intro K hK)
                refine WC.block ?_
                (refine WC.seq ?_; intro K hK)
                refine WC.region rfl ?_
                refine WL.want rfl (WL1.give rfl (g_indexAddr (sz := 9) rfl (.mk rfl rfl) (.mk rfl rfl) rfl rfl rfl (by omega) (fun _ _ => sl_some hsb (by omega))) ?_)
                refine WL.want rfl (WL1.give rfl (g_loadA rfl (.mk rfl rfl) rfl (sz9r _) (rdr_sl hsb (by omega) hgd)) ?_)
                refine WL.want rfl (WL1.alloc rfl rfl rfl rfl (fun b15 => ?_))
                refine WL.want rfl (WL1.storeAll rfl rfl (.mk rfl rfl) (.mk rfl rfl) (sz9r _) (Chg.one _) (by rw [Chg.len]; rfl) .head ?_)
                refine WL.nil ?_
                (refine hK _ _ ?_; clear hK)
                (refine WC.seq ?_; intro K hK)
                (refine WC.seq ?_; intro K hK)
                refine WC.region rfl ?_
                refine WL.want rfl (WL1.give rfl (g_move rfl (.mk (v := .slice _ _ _) rfl rfl)) ?_)
                refine WL.want rfl (WL1.give rfl (g_fieldAddr (off := 0) rfl (.mk rfl rfl) rfl (fun _ _ => rfl)) ?_)
                refine WL.want rfl (WL1.give rfl (g_load rfl (.mk rfl rfl) rfl (rd_pt (by repeat (first | exact .head _ | apply List.Mem.tail)) g0)) ?_)
                refine WL.want rfl (WL1.give rfl (g_indexAddr (sz := 1) rfl (.mk rfl rfl) (.mk rfl rfl) rfl rfl rfl (by omega) (fun _ _ => rfl)) ?_)
                refine WL.want rfl (WL1.give rfl (g_load rfl (.mk rfl rfl) rfl (rd_vec (by repeat (first | exact .head _ | apply List.Mem.tail)) gs)) ?_)
                refine WL.nil ?_
                (refine hK _ _ ?_; clear hK)
                refine WC.cond_true (.mk rfl rfl) ?_
                (refine WC.seq ?_; intro K hK)
                refine WC.region rfl ?_
                refine WL.want rfl (WL1.give rfl (g_move rfl (.mk (v := .slice _ _ _) rfl rfl)) ?_)
                refine WL.want rfl (WL1.callP rfl rfl rfl (.cons (.mk (v := .slice _ _ _) rfl rfl) .nil) (fun w hw => hqc w _ (Sl.of_vec hw (by repeat (first | exact .head _ | apply List.Mem.tail)))) ?_)
                refine WL.want rfl (WL1.give rfl (g_assign rfl (.mk (v := .bool _) rfl rfl)) ?_)
                refine WL.nil ?_
                (refine hK _ _ ?_; clear hK)
                refine WC.ret ?_
                exact fun w' hw' => ⟨rfl, hw'.1⟩
              | false =>
                rw [hsz] at gs
                (refine WC.seq ?_; intro K hK)
                refine WC.region rfl ?_
                refine WL.want rfl (WL1.give rfl (g_lt rfl (.mk rfl rfl) (.mk rfl rfl) (decide_eq_true (by omega))) ?_)
                refine WL.nil ?_
                (refine hK _ _ ?_; clear hK)
                (refine WC.seq ?_; intro K hK)
                refine WC.cond_true (.mk rfl rfl) ?_
                refine WC.skip ?_
                (refine hK _ _ ?_; clear hK)
                (refine WC.seq ?_; intro K hK)
                refine WC.block ?_
                (refine WC.seq ?_; intro K hK)
                refine WC.region rfl ?_
                refine WL.want rfl (WL1.give rfl (g_indexAddr (sz := 9) rfl (.mk rfl rfl) (.mk rfl rfl) rfl rfl rfl (by omega) (fun _ _ => sl_some hsb (by omega))) ?_)
                refine WL.want rfl (WL1.give rfl (g_loadA rfl (.mk rfl rfl) rfl (sz9r _) (rdr_sl hsb (by omega) hgd)) ?_)
                refine WL.want rfl (WL1.alloc rfl rfl rfl rfl (fun b15 => ?_))
                refine WL.want rfl (WL1.storeAll rfl rfl (.mk rfl rfl) (.mk rfl rfl) (sz9r _) (Chg.one _) (by rw [Chg.len]; rfl) .head ?_)
                refine WL.nil ?_
                (refine hK _ _ ?_; clear hK)
                (refine WC.seq ?_; intro K hK)
                (refine WC.seq ?_; intro K hK)
                refine WC.region rfl ?_
                refine WL.want rfl (WL1.give rfl (g_move rfl (.mk (v := .slice _ _ _) rfl rfl)) ?_)
                refine WL.want rfl (WL1.give rfl (g_fieldAddr (off := 0) rfl (.mk rfl rfl) rfl (fun _ _ => rfl)) ?_)
                refine WL.want rfl (WL1.give rfl (g_load rfl (.mk rfl rfl) rfl (rd_pt (by repeat (first | exact .head _ | apply List.Mem.tail)) g0)) ?_)
                refine WL.want rfl (WL1.give rfl (g_indexAddr (sz := 1) rfl (.mk rfl rfl) (.mk rfl rfl) rfl rfl rfl (by omega) (fun _ _ => rfl)) ?_)
                refine WL.want rfl (WL1.give rfl (g_load rfl (.mk rfl rfl) rfl (rd_vec (by repeat (first | exact .head _ | apply List.Mem.tail)) gs)) ?_)
                refine WL.nil ?_
                (refine hK _ _ ?_; clear hK)
                refine WC.cond_false (.mk rfl rfl) ?_
                refine WC.skip ?_
                (refine hK _ _ ?_; clear hK)
                refine WC.region rfl ?_
                refine WL.want rfl (WL1.give rfl (g_move rfl (.mk (v := .slice _ _ _) rfl rfl)) ?_)
                refine WL.want rfl (WL1.give rfl (g_fieldAddr (off := 0) rfl (.mk rfl rfl) rfl (fun _ _ => rfl)) ?_)
                refine WL.want rfl (WL1.give rfl (g_load rfl (.mk rfl rfl) rfl (rd_pt (by repeat (first | exact .head _ | apply List.Mem.tail)) g0)) ?_)
                refine WL.want rfl (WL1.give rfl (g_indexAddr (sz := 1) rfl (.mk rfl rfl) (.mk rfl rfl) rfl rfl rfl (by omega) (fun _ _ => rfl)) ?_)
                refine WL.want rfl (WL1.storeV1 rfl rfl (.mk rfl rfl) (.mk (v := .bool _) rfl rfl) rfl rfl (by first | omega | (simp; done) | (simp; omega)) (.tail (.head)) ?_)
                refine WL.nil ?_
                (refine hK _ _ ?_; clear hK)
                refine WC.region rfl ?_
                refine WL.want rfl (WL1.give rfl (g_add rfl (.mk rfl rfl) (.mk rfl rfl) (IntWalk.i64_in _ (by omega))) ?_)
                refine WL.want rfl (WL1.give rfl (g_move rfl (.mk (v := .int _ _) rfl rfl)) ?_)
                refine WL.nil ?_
                exact ⟨i + 1, (by repeat (first | exact trivial | refine ⟨rfl, ?_⟩)), by rw [Nat.mul_one, bls_set, hsn]; exact Imp.pick (by repeat (first | exact .head | apply Take.tail)) (Imp.pick (by repeat (first | exact .head | apply Take.tail)) (Imp.pick (by repeat (first | exact .head | apply Take.tail)) (Imp.nil _))), ⟨by omega, hds (hnn hsz)⟩, by omega⟩
            · obtain rfl : i = l.length := by omega
              rw [List.take_length] at hD
              have hq0 := hz0 hD
              have hsub1 : IntKind.i64.wrap ((l.length : Int) - 1) = (l.length : Int) - 1 := IntWalk.i64_in _ (by omega)
              clear hz0 hD
              (refine WC.seq ?_; intro K hK)
              refine WC.region rfl ?_
              refine WL.want rfl (WL1.give rfl (g_lt rfl (.mk rfl rfl) (.mk rfl rfl) (decide_eq_false (by omega))) ?_)
              refine WL.nil ?_
              (refine hK _ _ ?_; clear hK)
              (refine WC.seq ?_; intro K hK)
              refine WC.cond_false (.mk rfl rfl) ?_
              refine WC.exit ?_
              (clear hK; refine hK _ _ ?_; clear hK)
              (refine WC.seq ?_; intro K hK)
              refine WC.region rfl ?_
              refine WL.want rfl (WL1.give rfl (g_move rfl (.mk (v := .slice _ _ _) rfl rfl)) ?_)
              refine WL.want rfl (WL1.give rfl (g_assign rfl (.mk (v := .slice _ _ _) rfl rfl)) ?_)
              refine WL.nil ?_
              (refine hK _ _ ?_; clear hK)
              (refine WC.seq ?_; intro K hK)
              (refine WC.seq ?_; intro K hK)
              refine WC.region rfl ?_
              refine WL.want rfl (WL1.give rfl (g_move rfl (.mk (v := .slice _ _ _) rfl rfl)) ?_)
              refine WL.want rfl (WL1.give rfl (g_len rfl (.mk rfl rfl) rfl) ?_)
              refine WL.want rfl (WL1.give rfl (g_sub rfl (.mk rfl rfl) (.mk rfl rfl) hsub1) ?_)
              refine WL.want rfl (WL1.give rfl (g_assign rfl (.mk (v := .int _ _) rfl rfl)) ?_)
              refine WL.nil ?_
              (refine hK _ _ ?_; clear hK)
              refine WC.block ?_
              refine WC.loopF3 (fun (r : Nat) (Ab : Option Addr) (cb : Nat) => [(17, iv ((r : Int) - 1)), (16, .slice Ab (ds.length + 3) cb), (1, .slice B l.length d), (10, .slice Aa (ds.length + 3) ca)]) (fun r Ab cb => [vec Ab (ds.length + 3) cb 38 8 (kvs (bG ds l r)), vec Aa (ds.length + 3) ca 38 8 (kvs qa)]) (fun r _ _ => r ≤ l.length) (fun r _ _ => r) l.length Ap cp (by repeat (first | exact trivial | refine ⟨rfl, ?_⟩)) (by rw [hbe]; exact Imp.pick (A := vec Ap (ds.length + 3) cp 38 8 (kvs (ds ++ enc ds))) (by repeat (first | exact .head | apply Take.tail)) (Imp.pick (by repeat (first | exact .head | apply Take.tail)) (Imp.nil _))) (by omega) ?_
              intro r Ab cb V hr
              by_cases hr0 : r = 0
              · subst hr0
                have hbl := bG_len ds l 0
                (refine WC.seq ?_; intro K hK)
                (refine WC.seq ?_; intro K hK)
                refine WC.region rfl ?_
                refine WL.want rfl (WL1.give rfl (g_move rfl (.mk (v := .int _ _) rfl rfl)) ?_)
                refine WL.want rfl (WL1.give rfl (g_ge rfl (.mk rfl rfl) (.mk rfl rfl) (decide_eq_false (by omega))) ?_)
                refine WL.nil ?_
                (refine hK _ _ ?_; clear hK)
                refine WC.cond_false (.mk rfl rfl) ?_
                refine WC.exit ?_
                (clear hK; refine hK _ _ ?_; clear hK)
                (refine WC.seq ?_; intro K hK)
                refine WC.region rfl ?_
                refine WL.want rfl (WL1.give rfl (g_move rfl (.mk (v := .slice _ _ _) rfl rfl)) ?_)
                refine WL.want rfl (WL1.callP rfl rfl rfl (.cons (.mk (v := .slice _ _ _) rfl rfl) .nil) (fun w hw => hqc w _ (Sl.of_vec hw (by repeat (first | exact .head _ | apply List.Mem.tail)))) ?_)
                refine WL.want rfl (WL1.give rfl (g_move rfl (.mk (v := .bool _) rfl rfl)) ?_)
                refine WL.wantG rfl rfl rfl rfl (WL1.give rfl (g_move rfl (.mk (v := .slice _ _ _) rfl rfl)) ?_)
                refine WL.wantG rfl rfl rfl rfl (WL1.give rfl (g_move rfl (.mk (v := .slice _ _ _) rfl rfl)) ?_)
                refine WL.wantG rfl rfl rfl rfl (WL1.callP rfl rfl rfl (.cons (.mk (v := .slice _ _ _) rfl rfl) (.cons (.mk (v := .slice _ _ _) rfl rfl) .nil)) (fun w hw => sameblocks_t (a := qa) (b := bG ds l 0) (Sl.of_vec hw (by repeat (first | exact .head _ | apply List.Mem.tail))) (Sl.of_vec hw (.head _)) hqal hbl hq0) ?_)
                refine WL.want rfl (WL1.give rfl (g_pickT rfl (.mk rfl rfl) (.mk (v := .bool _) rfl rfl)) ?_)
                refine WL.want rfl (WL1.give rfl (g_assign rfl (.mk (v := .bool _) rfl rfl)) ?_)
                refine WL.nil ?_
                (refine hK _ _ ?_; clear hK)
                refine WC.ret ?_
                exact fun w' hw' => ⟨rfl, hw'.1⟩
              · obtain ⟨i, rfl⟩ : ∃ i, r = i + 1 := ⟨r - 1, by omega⟩
                have hri : (((i + 1 : Nat) : Int) - 1) = (i : Int) := by omega
                have hsubi : IntKind.i64.wrap ((i : Int) - 1) = (i : Int) - 1 := IntWalk.i64_in _ (by omega)
                have hone : Sl w 9 (.slice (subA B d i 9) (i + 1 - i) (d - i)) 1 (cvs [nth l i]) := by
                  have := hsb.sub (l := i) (h := i + 1) (by omega) (by omega)
                  rw [cvs_one_at (by omega)] at this
                  exact slE (by omega) this
                have hfr1 := fun w' hb => from_n (.slice (subA B d i 9) (i + 1 - i) (d - i)) [nth l i] w' (hone.below (w' := w') hb) (by show 1 ≤ 1000000; omega)
                obtain ⟨g2, hg2⟩ : ∃ g2, g2 = numL (difP (bG ds l i) (bG ds l (i + 1))) (ds.length + 3) := ⟨_, rfl⟩
                have hap1 := fun w' v v2 h1 h2 => apply_k (w := w') (vp := v) (vl := v2) (ps := bG ds l (i + 1)) (qs := bG ds l i) (l := [nth l i]) (n := ds.length) (m := ds.length + 3) (t := 1) (k := g2.length) (ds := g2) (bG_len ds l _) rfl rfl hd1 hd2 (by omega) (bG_group l _ hd1 hd2) (okC_one ho (by omega)) (bG_step (by omega)) hg2.symm rfl h1 h2
                clear hg2 hbe hq0
                rw [hri]
                (refine WC.seq ?_; intro K hK)
                (refine WC.seq ?_; intro K hK)
                refine WC.region rfl ?_
                refine WL.want rfl (WL1.give rfl (g_move rfl (.mk (v := .int _ _) rfl rfl)) ?_)
                refine WL.want rfl (WL1.give rfl (g_ge rfl (.mk rfl rfl) (.mk rfl rfl) (decide_eq_true (by omega))) ?_)
                refine WL.nil ?_
                (refine hK _ _ ?_; clear hK)
                refine WC.cond_true (.mk rfl rfl) ?_
                refine WC.skip ?_
                (refine hK _ _ ?_; clear hK)
                (refine WC.seq ?_; intro K hK)
                refine WC.block ?_
                (refine WC.seq ?_; intro K hK)
                refine WC.region rfl ?_
                refine WL.want rfl (WL1.give rfl (g_move rfl (.mk (v := .slice _ _ _) rfl rfl)) ?_)
                refine WL.want rfl (WL1.give rfl (g_move rfl (.mk (v := .slice _ _ _) rfl rfl)) ?_)
                refine WL.want rfl (WL1.give rfl (g_move rfl (.mk (v := .int _ _) rfl rfl)) ?_)
                refine WL.want rfl (WL1.give rfl (g_move rfl (.mk (v := .int _ _) rfl rfl)) ?_)
                refine WL.want rfl (WL1.give rfl (g_add rfl (.mk rfl rfl) (.mk rfl rfl) (IntWalk.i64_in _ (by omega))) ?_)
                refine WL.want rfl (WL1.give rfl (g_slice (sz := 9) rfl (.mk rfl rfl) rfl rfl ⟨(.mk rfl rfl), rfl⟩ ⟨(.mk rfl rfl), (Int.toNat_of_nonneg (by omega)).symm⟩ (by omega) (by omega)) ?_)
                (refine WL.want rfl (WL1.callN rfl rfl rfl (.cons (.mk (v := .slice _ _ _) rfl rfl) .nil) (fun w hw => hfr1 w hw.1) ?_); rintro _ _ ⟨Af, cf, rfl, rfl⟩)
                (refine WL.want rfl (WL1.callN rfl rfl rfl (.cons (.mk (v := .slice _ _ _) rfl rfl) (.cons (.mk (v := .slice _ _ _) rfl rfl) .nil)) (fun w hw => hap1 w _ _ (Sl.of_vec hw (by repeat (first | exact .head _ | apply List.Mem.tail))) (Sl.of_vec hw (.head _))) ?_); rintro _ _ ⟨A2, c2, F2, f2, rfl, rfl⟩)
                refine WL.want rfl (WL1.give rfl (g_move rfl (.mk (v := .tuple _) rfl rfl)) ?_)
                refine WL.want rfl (WL1.give rfl (g_extract rfl (.mk rfl rfl) rfl) ?_)
                refine WL.want rfl (WL1.give rfl (g_extract rfl (.mk rfl rfl) rfl) ?_)
                refine WL.want rfl (WL1.give rfl (g_extract rfl (.mk rfl rfl) rfl) ?_)
                refine WL.want rfl (WL1.give rfl (g_assign rfl (.mk (v := .slice _ _ _) rfl rfl)) ?_)
                refine WL.want rfl (WL1.give rfl (g_assign rfl (.mk (v := .int _ _) rfl rfl)) ?_)
                refine WL.nil ?_
                (refine hK _ _ ?_; clear hK)
                (refine WC.seq ?_; intro K hK)
                refine WC.region rfl ?_
                refine WL.want rfl (WL1.give rfl (g_move rfl (.mk (v := .int _ _) rfl rfl)) ?_)
                refine WL.want rfl (WL1.give rfl (g_ne rfl (.mk rfl rfl) (.mk rfl rfl) (decide_eq_false (by omega))) ?_)
                refine WL.nil ?_
                (refine hK _ _ ?_; clear hK)
                refine WC.cond_false (.mk rfl rfl) ?_
                refine WC.skip ?_
                (refine hK _ _ ?_; clear hK)
                refine WC.region rfl ?_
                refine WL.want rfl (WL1.give rfl (g_move rfl (.mk (v := .int _ _) rfl rfl)) ?_)
                refine WL.want rfl (WL1.give rfl (g_sub rfl (.mk rfl rfl) (.mk rfl rfl) hsubi) ?_)
                refine WL.want rfl (WL1.give rfl (g_assign rfl (.mk (v := .int _ _) rfl rfl)) ?_)
                refine WL.nil ?_
                exact ⟨i, A2, c2, (by repeat (first | exact trivial | refine ⟨rfl, ?_⟩)), Imp.pick (A := vec A2 (ds.length + 3) c2 38 8 (kvs (bG ds l i))) (by repeat (first | exact .head | apply Take.tail)) (Imp.pick (A := vec Aa (ds.length + 3) ca 38 8 (kvs qa)) (by repeat (first | exact .head | apply Take.tail)) (Imp.nil _)), by omega, by omega⟩
        · have hwb := fun w' hb => whole_bad (.slice A ds.length c) ds w' (hs.below (w' := w') hb) hd
          refine calls_wc (args := [.slice A ds.length c, .slice B l.length d, iv m]) [6] [] Try.func4 rfl Try.ntmps4 rfl rfl rfl rfl (H.refl _) ?_
          (refine WC.seq ?_; intro K hK)
          refine WC.region rfl ?_
          refine WL.want rfl (WL1.give rfl (g_assign rfl (.mk (v := .bool _) rfl rfl)) ?_)
          refine WL.nil ?_
          (refine hK _ _ ?_; clear hK)
          (refine WC.seq ?_; intro K hK)
          (refine WC.seq ?_; intro K hK)
          refine WC.region rfl ?_
          refine WL.want rfl (WL1.callP rfl rfl rfl .nil (fun w hw => awake_e w) ?_)
          refine WL.want rfl (WL1.give rfl (g_notT rfl (.mk rfl rfl)) ?_)
          refine WL.nil ?_
          (refine hK _ _ ?_; clear hK)
          refine WC.cond_false (.mk rfl rfl) ?_
          refine WC.skip ?_
          (refine hK _ _ ?_; clear hK)
          (refine WC.seq ?_; intro K hK)
          (refine WC.seq ?_; intro K hK)
          refine WC.region rfl ?_
          refine WL.want rfl (WL1.give rfl (g_move rfl (.mk (v := .slice _ _ _) rfl rfl)) ?_)
          refine WL.want rfl (WL1.give rfl (g_len rfl (.mk rfl rfl) rfl) ?_)
          refine WL.want rfl (WL1.give rfl (g_gt rfl (.mk rfl rfl) (.mk rfl rfl) (decide_eq_false (by omega))) ?_)
          refine WL.nil ?_
          (refine hK _ _ ?_; clear hK)
          refine WC.cond_false (.mk rfl rfl) ?_
          refine WC.skip ?_
          (refine hK _ _ ?_; clear hK)
          (refine WC.seq ?_; intro K hK)
          refine WC.region rfl ?_
          refine WL.want rfl (WL1.give rfl (g_move rfl (.mk (v := .int _ _) rfl rfl)) ?_)
          refine WL.want rfl (WL1.callP rfl rfl rfl (.cons (.mk (v := .int _ _) rfl rfl) .nil) (fun w hw => hzb w) ?_)
          refine WL.want rfl (WL1.give rfl (g_assign rfl (.mk (v := .slice _ _ _) rfl rfl)) ?_)
          refine WL.nil ?_
          (refine hK _ _ ?_; clear hK)
          (refine WC.seq ?_; intro K hK)
          (refine WC.seq ?_; intro K hK)
          refine WC.region rfl ?_
          refine WL.want rfl (WL1.give rfl (g_move rfl (.mk (v := .int _ _) rfl rfl)) ?_)
          refine WL.want rfl (WL1.give rfl (g_lt rfl (.mk rfl rfl) (.mk rfl rfl) (decide_eq_false (by omega))) ?_)
          refine WL.want rfl (WL1.give rfl (g_move rfl (.mk (v := .bool _) rfl rfl)) ?_)
          refine WL.wantG rfl rfl rfl rfl (WL1.give rfl (g_move rfl (.mk (v := .int _ _) rfl rfl)) ?_)
          refine WL.wantG rfl rfl rfl rfl (WL1.give rfl (g_gt rfl (.mk rfl rfl) (.mk rfl rfl) (decide_eq_true (by omega))) ?_)
          refine WL.want rfl (WL1.give rfl (g_pickF rfl (.mk rfl rfl) (.mk (v := .bool _) rfl rfl)) ?_)
          refine WL.nil ?_
          (refine hK _ _ ?_; clear hK)
          refine WC.cond_true (.mk rfl rfl) ?_
          (refine WC.seq ?_; intro K hK)
          refine WC.region rfl ?_
          refine WL.want rfl (WL1.give rfl (g_move rfl (.mk (v := .slice _ _ _) rfl rfl)) ?_)
          refine WL.want rfl (WL1.give rfl (g_len rfl (.mk rfl rfl) rfl) ?_)
          refine WL.want rfl (WL1.give rfl (g_ne rfl (.mk rfl rfl) (.mk rfl rfl) (decide_eq_false (by omega))) ?_)
          refine WL.nil ?_
          (refine hK _ _ ?_; clear hK)
          refine WC.cond_false (.mk rfl rfl) ?_
          refine WC.skip ?_
          (refine hK _ _ ?_; clear hK)
          (refine WC.seq ?_; intro K hK)
          refine WC.region rfl ?_
          refine WL.want rfl (WL1.give rfl (g_move rfl (.mk (v := .slice _ _ _) rfl rfl)) ?_)
          refine WL.want rfl (WL1.callP rfl rfl rfl (.cons (.mk (v := .slice _ _ _) rfl rfl) .nil) (fun w hw => hwb w hw.1) ?_)
          refine WL.want rfl (WL1.give rfl (g_move rfl (.mk (v := .tuple _) rfl rfl)) ?_)
          refine WL.want rfl (WL1.give rfl (g_extract rfl (.mk rfl rfl) rfl) ?_)
          refine WL.want rfl (WL1.give rfl (g_extract rfl (.mk rfl rfl) rfl) ?_)
          refine WL.want rfl (WL1.give rfl (g_assign rfl (.mk (v := .slice _ _ _) rfl rfl)) ?_)
          refine WL.want rfl (WL1.give rfl (g_assign rfl (.mk (v := .bool _) rfl rfl)) ?_)
          refine WL.nil ?_
          (refine hK _ _ ?_; clear hK)
          (refine WC.seq ?_; intro K hK)
          (refine WC.seq ?_; intro K hK)
          refine WC.region rfl ?_
          refine WL.want rfl (WL1.give rfl (g_move rfl (.mk (v := .bool _) rfl rfl)) ?_)
          refine WL.want rfl (WL1.give rfl (g_notF rfl (.mk rfl rfl)) ?_)
          refine WL.nil ?_
          (refine hK _ _ ?_; clear hK)
          refine WC.cond_true (.mk rfl rfl) ?_
          (refine WC.seq ?_; intro K hK)
          refine WC.region rfl ?_
          refine WL.want rfl (WL1.give rfl (g_assign rfl (.mk (v := .bool _) rfl rfl)) ?_)
          refine WL.nil ?_
          (refine hK _ _ ?_; clear hK)
          refine WC.ret ?_
          exact fun w' hw' => ⟨rfl, hw'.1⟩

set_option maxRecDepth 100000 in
theorem lifted (os : Os) (started : os.Started) (H : Type) (enc : TypeId × Value → H) :
    ReturnsInHanded {} Try.checked os 4 .any (Rows.groupConsistentSpec.pre6 enc Try.prog Try.f4 Rows.groupConsistentRow.domain false) (Rows.groupConsistentSpec.post enc Try.prog Try.f4 false true false false) := by
  refine returnsInHanded_of_change (C := Try.checked) own started (by kernel_rfl) Try.func4
    (ChangeSpec.witness6 (enc := enc) (C := Try.checked) false ⟨#[], #[.slice none 0 0, .slice none 0 0, .int .i64 0], []⟩ 8 (by kernel_rfl) (by kernel_rfl) (by kernel_rfl) (by kernel_rfl)) ?_
  intro W base args ds gs before hval0 hW _ _
  have hval : ∀ (j : Nat) t v, Try.f4.params[j]? = some t → args[j]? = some v → Value.okWide Try.prog W .any base t v := hval0
  have hW' := hW
  obtain ⟨p, q, hA0, hV, rfl, hfz, hnd⟩ := hW
  have hA : DataW.TrodAll enc Try.prog W 0 (fun _ => true) true Try.f4.params.toList args.toList ds p := hA0
  rw [Try.params4] at hA hval
  obtain ⟨v0, vs0, d0, ds0, p0, q0, hargs, rfl, rfl, h0, r0⟩ := trodAll_cons hA
  obtain ⟨v1, vs1, d1, ds1, p1, q1, rfl, rfl, rfl, h1, r1⟩ := trodAll_cons r0
  obtain ⟨v2, vs2, d2, ds2, p2, q2, rfl, rfl, rfl, h2, r2⟩ := trodAll_cons r1
  obtain ⟨rfl, rfl, rfl⟩ := trodAll_nil r2
  obtain rfl : args = #[v0, v1, v2] := by cases args; simp_all
  obtain ⟨p, psl⟩ := open_blks (hval 0 22 v0 rfl rfl) h0
  obtain ⟨l, lsl, lr⟩ := open_changes (hval 1 23 v1 rfl rfl) h1
  obtain ⟨m, rfl, mlo, mhi⟩ := open_iv (hval 2 3 v2 rfl rfl) h2
  refine (walk (w := W) v0 p psl v1 l lsl lr m mlo mhi).mono fun e W' ⟨he, hb⟩ => ?_
  subst he
  exact ⟨_, rfl, law_post laidOut (by kernel_rfl) rfl rfl Try.underlying4 (fun ds h => by match ds, h with | [_, _, _], _ => rfl) hW' hb⟩

theorem proved : Rows.GroupConsistentSaid :=
  OpenClaim.holds_of_wide 4 Try.f4 rfl rfl rfl rfl rfl rfl rfl ⟨rfl, rfl, rfl, rfl, rfl⟩ rfl rfl rfl rfl rfl (by kernel_rfl) Try.func4 (by kernel_rfl)
    (of_decide_eq_true (by kernel_rfl)) (by unfold Func.isWrapper; first | (rw [if_pos (by decide +kernel)]; kernel_rfl) | (rw [if_neg (by decide +kernel)]; exact ⟨rfl, rfl⟩))
    (fun os started H enc _ => lifted os started H enc)
end Go.Proofs.Ytnkbnponpknokaa.LGroupConsistent
