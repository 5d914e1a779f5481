/- WholeSilent answers true, whatever the data, the damage, the garbage and the changes: up to three pieces that are not as their leaf says are exactly the bad ones, the group is decoded, and a change computed from good pieces leads to the same group as without the damage. No condition. -/
import Derived.Test.YtdcijljfgcjelaaGreatJe7
namespace Go.Proofs.YtdcijljfgcjelaaGreat.LWholeSilent
set_option maxRecDepth 20000
open Go.RowKit Go.WideShapes Go.ChangeShapes Go.ChangeAt
attribute [local irreducible] Calls

set_option maxHeartbeats 16000000 in
theorem walk (w : World) (v : Value) (ds : List Blk) (hv : Sl w 8 v ds.length (kvs ds)) (s : Nat) (hs : s < 65536) (vg : Value) (gs : List Blk) (hvg : Sl w 8 vg gs.length (kvs gs)) (vl : Value) (l : List Chg) (hvl : Sl w 9 vl l.length (cvs l)) (_lr : ∀ x ∈ l, x.ok) :
    Calls Tryz.prog 3 #[v, .int .u16 s, vg, vl] w fun en w' => en = .returned (.bool true) ∧ Below w.heap.size w w' := by
  obtain ⟨V, cV, rfl, _, hm, hsl⟩ := hv.open_
  obtain ⟨G, cG, rfl, _, hmg, hsg⟩ := hvg.open_
  obtain ⟨D, cD, rfl, _, hml, hsb⟩ := hvl.open_
  unfold maxLen at hm hmg hml
  by_cases hd1 : ds.length < 1
  · refine calls_wc (args := [.slice V ds.length cV, .int .u16 s, .slice G gs.length cG, .slice D l.length cD]) [8] [] Tryz.func3 rfl Tryz.ntmps3 rfl rfl rfl rfl (H.refl _) ?_
    refine WC.seq fun K hK => ?_
    refine WC.region rfl ?_
    refine wAB rfl rfl rfl rfl rfl ?_
    refine WL.nil (hK _ _ ?_); clear hK
    refine WC.seq fun K hK => ?_
    refine WC.seq fun K hK => ?_
    refine WC.region rfl ?_
    refine WL.want rfl (WL1.callP rfl rfl rfl .nil (fun w hw => awake_top w) ?_)
    refine wG rfl rfl (g_notT rfl (.mk rfl rfl)) ?_
    refine WL.nil (hK _ _ ?_); clear hK
    refine WC.cond_false (.mk rfl rfl) ?_
    refine WC.skip ?_
    (refine hK _ _ ?_; clear hK)
    refine WC.seq fun K hK => ?_
    refine WC.seq fun K hK => ?_
    refine WC.region rfl ?_
    refine wMS rfl rfl rfl rfl rfl ?_
    refine wG rfl rfl (g_len rfl (.mk rfl rfl) rfl) ?_
    refine wG rfl rfl (g_lt rfl (.mk rfl rfl) (.mk rfl rfl) (decide_eq_true (by omega))) ?_
    refine wMB rfl rfl rfl rfl rfl ?_
    refine WL.skipG rfl rfl rfl rfl rfl rfl ?_
    refine WL.skipG rfl rfl rfl rfl rfl rfl ?_
    refine WL.skipG rfl rfl rfl rfl rfl rfl ?_
    refine wG rfl rfl (g_pickT rfl (.mk rfl rfl) (.mk (v := .bool _) rfl rfl)) ?_
    refine wMB rfl rfl rfl rfl rfl ?_
    refine WL.skipG rfl rfl rfl rfl rfl rfl ?_
    refine WL.skipG rfl rfl rfl rfl rfl rfl ?_
    refine WL.skipG rfl rfl rfl rfl rfl rfl ?_
    refine WL.skipG rfl rfl rfl rfl rfl rfl ?_
    refine WL.skipG rfl rfl rfl rfl rfl rfl ?_
    refine WL.skipG rfl rfl rfl rfl rfl rfl ?_
    refine wG rfl rfl (g_pickT rfl (.mk rfl rfl) (.mk (v := .bool _) rfl rfl)) ?_
    refine wMB rfl rfl rfl rfl rfl ?_
    refine WL.skipG rfl rfl rfl rfl rfl rfl ?_
    refine WL.skipG rfl rfl rfl rfl rfl rfl ?_
    refine WL.skipG rfl rfl rfl rfl rfl rfl ?_
    refine wG rfl rfl (g_pickT rfl (.mk rfl rfl) (.mk (v := .bool _) rfl rfl)) ?_
    refine wMB rfl rfl rfl rfl rfl ?_
    refine WL.skipG rfl rfl rfl rfl rfl rfl ?_
    refine WL.skipG rfl rfl rfl rfl rfl rfl ?_
    refine WL.skipG rfl rfl rfl rfl rfl rfl ?_
    refine wG rfl rfl (g_pickT rfl (.mk rfl rfl) (.mk (v := .bool _) rfl rfl)) ?_
    refine WL.nil (hK _ _ ?_); clear hK
    refine WC.cond_true (.mk rfl rfl) ?_
    refine WC.seq fun K hK => ?_
    refine WC.region rfl ?_
    refine wAB rfl rfl rfl rfl rfl ?_
    refine WL.nil (hK _ _ ?_); clear hK
    refine WC.ret ?_
    exact fun w' hw' => ⟨rfl, hw'.1⟩
  by_cases hd2 : 8 < ds.length
  · refine calls_wc (args := [.slice V ds.length cV, .int .u16 s, .slice G gs.length cG, .slice D l.length cD]) [8] [] Tryz.func3 rfl Tryz.ntmps3 rfl rfl rfl rfl (H.refl _) ?_
    refine WC.seq fun K hK => ?_
    refine WC.region rfl ?_
    refine wAB rfl rfl rfl rfl rfl ?_
    refine WL.nil (hK _ _ ?_); clear hK
    refine WC.seq fun K hK => ?_
    refine WC.seq fun K hK => ?_
    refine WC.region rfl ?_
    refine WL.want rfl (WL1.callP rfl rfl rfl .nil (fun w hw => awake_top w) ?_)
    refine wG rfl rfl (g_notT rfl (.mk rfl rfl)) ?_
    refine WL.nil (hK _ _ ?_); clear hK
    refine WC.cond_false (.mk rfl rfl) ?_
    refine WC.skip ?_
    (refine hK _ _ ?_; clear hK)
    refine WC.seq fun K hK => ?_
    refine WC.seq fun K hK => ?_
    refine WC.region rfl ?_
    refine wMS rfl rfl rfl rfl rfl ?_
    refine wG rfl rfl (g_len rfl (.mk rfl rfl) rfl) ?_
    refine wG rfl rfl (g_lt rfl (.mk rfl rfl) (.mk rfl rfl) (decide_eq_false (by omega))) ?_
    refine wMB rfl rfl rfl rfl rfl ?_
    refine WL.wantG rfl rfl rfl rfl (WL1.give rfl (g_move rfl (.mk (v := .slice _ _ _) rfl rfl)) ?_)
    refine WL.wantG rfl rfl rfl rfl (WL1.give rfl (g_len rfl (.mk rfl rfl) rfl) ?_)
    refine WL.wantG rfl rfl rfl rfl (WL1.give rfl (g_gt rfl (.mk rfl rfl) (.mk rfl rfl) (decide_eq_true (by omega))) ?_)
    refine wG rfl rfl (g_pickF rfl (.mk rfl rfl) (.mk (v := .bool _) rfl rfl)) ?_
    refine wMB rfl rfl rfl rfl rfl ?_
    refine WL.skipG rfl rfl rfl rfl rfl rfl ?_
    refine WL.skipG rfl rfl rfl rfl rfl rfl ?_
    refine WL.skipG rfl rfl rfl rfl rfl rfl ?_
    refine WL.skipG rfl rfl rfl rfl rfl rfl ?_
    refine WL.skipG rfl rfl rfl rfl rfl rfl ?_
    refine WL.skipG rfl rfl rfl rfl rfl rfl ?_
    refine wG rfl rfl (g_pickT rfl (.mk rfl rfl) (.mk (v := .bool _) rfl rfl)) ?_
    refine wMB rfl rfl rfl rfl rfl ?_
    refine WL.skipG rfl rfl rfl rfl rfl rfl ?_
    refine WL.skipG rfl rfl rfl rfl rfl rfl ?_
    refine WL.skipG rfl rfl rfl rfl rfl rfl ?_
    refine wG rfl rfl (g_pickT rfl (.mk rfl rfl) (.mk (v := .bool _) rfl rfl)) ?_
    refine wMB rfl rfl rfl rfl rfl ?_
    refine WL.skipG rfl rfl rfl rfl rfl rfl ?_
    refine WL.skipG rfl rfl rfl rfl rfl rfl ?_
    refine WL.skipG rfl rfl rfl rfl rfl rfl ?_
    refine wG rfl rfl (g_pickT rfl (.mk rfl rfl) (.mk (v := .bool _) rfl rfl)) ?_
    refine WL.nil (hK _ _ ?_); clear hK
    refine WC.cond_true (.mk rfl rfl) ?_
    refine WC.seq fun K hK => ?_
    refine WC.region rfl ?_
    refine wAB rfl rfl rfl rfl rfl ?_
    refine WL.nil (hK _ _ ?_); clear hK
    refine WC.ret ?_
    exact fun w' hw' => ⟨rfl, hw'.1⟩
  by_cases hg1 : gs.length < ds.length + 3
  · refine calls_wc (args := [.slice V ds.length cV, .int .u16 s, .slice G gs.length cG, .slice D l.length cD]) [8] [] Tryz.func3 rfl Tryz.ntmps3 rfl rfl rfl rfl (H.refl _) ?_
    refine WC.seq fun K hK => ?_
    refine WC.region rfl ?_
    refine wAB rfl rfl rfl rfl rfl ?_
    refine WL.nil (hK _ _ ?_); clear hK
    refine WC.seq fun K hK => ?_
    refine WC.seq fun K hK => ?_
    refine WC.region rfl ?_
    refine WL.want rfl (WL1.callP rfl rfl rfl .nil (fun w hw => awake_top w) ?_)
    refine wG rfl rfl (g_notT rfl (.mk rfl rfl)) ?_
    refine WL.nil (hK _ _ ?_); clear hK
    refine WC.cond_false (.mk rfl rfl) ?_
    refine WC.skip ?_
    (refine hK _ _ ?_; clear hK)
    refine WC.seq fun K hK => ?_
    refine WC.seq fun K hK => ?_
    refine WC.region rfl ?_
    refine wMS rfl rfl rfl rfl rfl ?_
    refine wG rfl rfl (g_len rfl (.mk rfl rfl) rfl) ?_
    refine wG rfl rfl (g_lt rfl (.mk rfl rfl) (.mk rfl rfl) (decide_eq_false (by omega))) ?_
    refine wMB rfl rfl rfl rfl rfl ?_
    refine WL.wantG rfl rfl rfl rfl (WL1.give rfl (g_move rfl (.mk (v := .slice _ _ _) rfl rfl)) ?_)
    refine WL.wantG rfl rfl rfl rfl (WL1.give rfl (g_len rfl (.mk rfl rfl) rfl) ?_)
    refine WL.wantG rfl rfl rfl rfl (WL1.give rfl (g_gt rfl (.mk rfl rfl) (.mk rfl rfl) (decide_eq_false (by omega))) ?_)
    refine wG rfl rfl (g_pickF rfl (.mk rfl rfl) (.mk (v := .bool _) rfl rfl)) ?_
    refine wMB rfl rfl rfl rfl rfl ?_
    refine WL.wantG rfl rfl rfl rfl (WL1.give rfl (g_move rfl (.mk (v := .slice _ _ _) rfl rfl)) ?_)
    refine WL.wantG rfl rfl rfl rfl (WL1.give rfl (g_len rfl (.mk rfl rfl) rfl) ?_)
    refine WL.wantG rfl rfl rfl rfl (WL1.give rfl (g_move rfl (.mk (v := .slice _ _ _) rfl rfl)) ?_)
    refine WL.wantG rfl rfl rfl rfl (WL1.give rfl (g_len rfl (.mk rfl rfl) rfl) ?_)
    refine WL.wantG rfl rfl rfl rfl (WL1.give rfl (g_add rfl (.mk rfl rfl) (.mk rfl rfl) (IntWalk.i64_in _ (by omega))) ?_)
    refine WL.wantG rfl rfl rfl rfl (WL1.give rfl (g_lt rfl (.mk rfl rfl) (.mk rfl rfl) (decide_eq_true (by omega))) ?_)
    refine wG rfl rfl (g_pickF rfl (.mk rfl rfl) (.mk (v := .bool _) rfl rfl)) ?_
    refine wMB rfl rfl rfl rfl rfl ?_
    refine WL.skipG rfl rfl rfl rfl rfl rfl ?_
    refine WL.skipG rfl rfl rfl rfl rfl rfl ?_
    refine WL.skipG rfl rfl rfl rfl rfl rfl ?_
    refine wG rfl rfl (g_pickT rfl (.mk rfl rfl) (.mk (v := .bool _) rfl rfl)) ?_
    refine wMB rfl rfl rfl rfl rfl ?_
    refine WL.skipG rfl rfl rfl rfl rfl rfl ?_
    refine WL.skipG rfl rfl rfl rfl rfl rfl ?_
    refine WL.skipG rfl rfl rfl rfl rfl rfl ?_
    refine wG rfl rfl (g_pickT rfl (.mk rfl rfl) (.mk (v := .bool _) rfl rfl)) ?_
    refine WL.nil (hK _ _ ?_); clear hK
    refine WC.cond_true (.mk rfl rfl) ?_
    refine WC.seq fun K hK => ?_
    refine WC.region rfl ?_
    refine wAB rfl rfl rfl rfl rfl ?_
    refine WL.nil (hK _ _ ?_); clear hK
    refine WC.ret ?_
    exact fun w' hw' => ⟨rfl, hw'.1⟩
  by_cases hl0 : l.length = 0
  · refine calls_wc (args := [.slice V ds.length cV, .int .u16 s, .slice G gs.length cG, .slice D l.length cD]) [8] [] Tryz.func3 rfl Tryz.ntmps3 rfl rfl rfl rfl (H.refl _) ?_
    refine WC.seq fun K hK => ?_
    refine WC.region rfl ?_
    refine wAB rfl rfl rfl rfl rfl ?_
    refine WL.nil (hK _ _ ?_); clear hK
    refine WC.seq fun K hK => ?_
    refine WC.seq fun K hK => ?_
    refine WC.region rfl ?_
    refine WL.want rfl (WL1.callP rfl rfl rfl .nil (fun w hw => awake_top w) ?_)
    refine wG rfl rfl (g_notT rfl (.mk rfl rfl)) ?_
    refine WL.nil (hK _ _ ?_); clear hK
    refine WC.cond_false (.mk rfl rfl) ?_
    refine WC.skip ?_
    (refine hK _ _ ?_; clear hK)
    refine WC.seq fun K hK => ?_
    refine WC.seq fun K hK => ?_
    refine WC.region rfl ?_
    refine wMS rfl rfl rfl rfl rfl ?_
    refine wG rfl rfl (g_len rfl (.mk rfl rfl) rfl) ?_
    refine wG rfl rfl (g_lt rfl (.mk rfl rfl) (.mk rfl rfl) (decide_eq_false (by omega))) ?_
    refine wMB rfl rfl rfl rfl rfl ?_
    refine WL.wantG rfl rfl rfl rfl (WL1.give rfl (g_move rfl (.mk (v := .slice _ _ _) rfl rfl)) ?_)
    refine WL.wantG rfl rfl rfl rfl (WL1.give rfl (g_len rfl (.mk rfl rfl) rfl) ?_)
    refine WL.wantG rfl rfl rfl rfl (WL1.give rfl (g_gt rfl (.mk rfl rfl) (.mk rfl rfl) (decide_eq_false (by omega))) ?_)
    refine wG rfl rfl (g_pickF rfl (.mk rfl rfl) (.mk (v := .bool _) rfl rfl)) ?_
    refine wMB rfl rfl rfl rfl rfl ?_
    refine WL.wantG rfl rfl rfl rfl (WL1.give rfl (g_move rfl (.mk (v := .slice _ _ _) rfl rfl)) ?_)
    refine WL.wantG rfl rfl rfl rfl (WL1.give rfl (g_len rfl (.mk rfl rfl) rfl) ?_)
    refine WL.wantG rfl rfl rfl rfl (WL1.give rfl (g_move rfl (.mk (v := .slice _ _ _) rfl rfl)) ?_)
    refine WL.wantG rfl rfl rfl rfl (WL1.give rfl (g_len rfl (.mk rfl rfl) rfl) ?_)
    refine WL.wantG rfl rfl rfl rfl (WL1.give rfl (g_add rfl (.mk rfl rfl) (.mk rfl rfl) (IntWalk.i64_in _ (by omega))) ?_)
    refine WL.wantG rfl rfl rfl rfl (WL1.give rfl (g_lt rfl (.mk rfl rfl) (.mk rfl rfl) (decide_eq_false (by omega))) ?_)
    refine wG rfl rfl (g_pickF rfl (.mk rfl rfl) (.mk (v := .bool _) rfl rfl)) ?_
    refine wMB rfl rfl rfl rfl rfl ?_
    refine WL.wantG rfl rfl rfl rfl (WL1.give rfl (g_move rfl (.mk (v := .slice _ _ _) rfl rfl)) ?_)
    refine WL.wantG rfl rfl rfl rfl (WL1.give rfl (g_len rfl (.mk rfl rfl) rfl) ?_)
    refine WL.wantG rfl rfl rfl rfl (WL1.give rfl (g_eq rfl (.mk rfl rfl) (.mk rfl rfl) (decide_eq_true (by omega))) ?_)
    refine wG rfl rfl (g_pickF rfl (.mk rfl rfl) (.mk (v := .bool _) rfl rfl)) ?_
    refine wMB rfl rfl rfl rfl rfl ?_
    refine WL.skipG rfl rfl rfl rfl rfl rfl ?_
    refine WL.skipG rfl rfl rfl rfl rfl rfl ?_
    refine WL.skipG rfl rfl rfl rfl rfl rfl ?_
    refine wG rfl rfl (g_pickT rfl (.mk rfl rfl) (.mk (v := .bool _) rfl rfl)) ?_
    refine WL.nil (hK _ _ ?_); clear hK
    refine WC.cond_true (.mk rfl rfl) ?_
    refine WC.seq fun K hK => ?_
    refine WC.region rfl ?_
    refine wAB rfl rfl rfl rfl rfl ?_
    refine WL.nil (hK _ _ ?_); clear hK
    refine WC.ret ?_
    exact fun w' hw' => ⟨rfl, hw'.1⟩
  by_cases hl10 : 10 < l.length
  · refine calls_wc (args := [.slice V ds.length cV, .int .u16 s, .slice G gs.length cG, .slice D l.length cD]) [8] [] Tryz.func3 rfl Tryz.ntmps3 rfl rfl rfl rfl (H.refl _) ?_
    refine WC.seq fun K hK => ?_
    refine WC.region rfl ?_
    refine wAB rfl rfl rfl rfl rfl ?_
    refine WL.nil (hK _ _ ?_); clear hK
    refine WC.seq fun K hK => ?_
    refine WC.seq fun K hK => ?_
    refine WC.region rfl ?_
    refine WL.want rfl (WL1.callP rfl rfl rfl .nil (fun w hw => awake_top w) ?_)
    refine wG rfl rfl (g_notT rfl (.mk rfl rfl)) ?_
    refine WL.nil (hK _ _ ?_); clear hK
    refine WC.cond_false (.mk rfl rfl) ?_
    refine WC.skip ?_
    (refine hK _ _ ?_; clear hK)
    refine WC.seq fun K hK => ?_
    refine WC.seq fun K hK => ?_
    refine WC.region rfl ?_
    refine wMS rfl rfl rfl rfl rfl ?_
    refine wG rfl rfl (g_len rfl (.mk rfl rfl) rfl) ?_
    refine wG rfl rfl (g_lt rfl (.mk rfl rfl) (.mk rfl rfl) (decide_eq_false (by omega))) ?_
    refine wMB rfl rfl rfl rfl rfl ?_
    refine WL.wantG rfl rfl rfl rfl (WL1.give rfl (g_move rfl (.mk (v := .slice _ _ _) rfl rfl)) ?_)
    refine WL.wantG rfl rfl rfl rfl (WL1.give rfl (g_len rfl (.mk rfl rfl) rfl) ?_)
    refine WL.wantG rfl rfl rfl rfl (WL1.give rfl (g_gt rfl (.mk rfl rfl) (.mk rfl rfl) (decide_eq_false (by omega))) ?_)
    refine wG rfl rfl (g_pickF rfl (.mk rfl rfl) (.mk (v := .bool _) rfl rfl)) ?_
    refine wMB rfl rfl rfl rfl rfl ?_
    refine WL.wantG rfl rfl rfl rfl (WL1.give rfl (g_move rfl (.mk (v := .slice _ _ _) rfl rfl)) ?_)
    refine WL.wantG rfl rfl rfl rfl (WL1.give rfl (g_len rfl (.mk rfl rfl) rfl) ?_)
    refine WL.wantG rfl rfl rfl rfl (WL1.give rfl (g_move rfl (.mk (v := .slice _ _ _) rfl rfl)) ?_)
    refine WL.wantG rfl rfl rfl rfl (WL1.give rfl (g_len rfl (.mk rfl rfl) rfl) ?_)
    refine WL.wantG rfl rfl rfl rfl (WL1.give rfl (g_add rfl (.mk rfl rfl) (.mk rfl rfl) (IntWalk.i64_in _ (by omega))) ?_)
    refine WL.wantG rfl rfl rfl rfl (WL1.give rfl (g_lt rfl (.mk rfl rfl) (.mk rfl rfl) (decide_eq_false (by omega))) ?_)
    refine wG rfl rfl (g_pickF rfl (.mk rfl rfl) (.mk (v := .bool _) rfl rfl)) ?_
    refine wMB rfl rfl rfl rfl rfl ?_
    refine WL.wantG rfl rfl rfl rfl (WL1.give rfl (g_move rfl (.mk (v := .slice _ _ _) rfl rfl)) ?_)
    refine WL.wantG rfl rfl rfl rfl (WL1.give rfl (g_len rfl (.mk rfl rfl) rfl) ?_)
    refine WL.wantG rfl rfl rfl rfl (WL1.give rfl (g_eq rfl (.mk rfl rfl) (.mk rfl rfl) (decide_eq_false (by omega))) ?_)
    refine wG rfl rfl (g_pickF rfl (.mk rfl rfl) (.mk (v := .bool _) rfl rfl)) ?_
    refine wMB rfl rfl rfl rfl rfl ?_
    refine WL.wantG rfl rfl rfl rfl (WL1.give rfl (g_move rfl (.mk (v := .slice _ _ _) rfl rfl)) ?_)
    refine WL.wantG rfl rfl rfl rfl (WL1.give rfl (g_len rfl (.mk rfl rfl) rfl) ?_)
    refine WL.wantG rfl rfl rfl rfl (WL1.give rfl (g_gt rfl (.mk rfl rfl) (.mk rfl rfl) (decide_eq_true (by omega))) ?_)
    refine wG rfl rfl (g_pickF rfl (.mk rfl rfl) (.mk (v := .bool _) rfl rfl)) ?_
    refine WL.nil (hK _ _ ?_); clear hK
    refine WC.cond_true (.mk rfl rfl) ?_
    refine WC.seq fun K hK => ?_
    refine WC.region rfl ?_
    refine wAB rfl rfl rfl rfl rfl ?_
    refine WL.nil (hK _ _ ?_); clear hK
    refine WC.ret ?_
    exact fun w' hw' => ⟨rfl, hw'.1⟩
  have hren := fun w' hb => rencode_n (.slice V ds.length cV) ds w' (hsl.below (w' := w') hb) (by omega) (by omega)
  obtain ⟨N, hN⟩ : ∃ N, N = ds.length := ⟨_, rfl⟩
  have hgl : (ds ++ enc ds).length = N + 3 := by rw [List.length_append, enc3, hN]
  have hgg : isGroup (ds ++ enc ds) = true := group_enc (by omega) (by omega)
  have hk0 : [] ++ kvs ds ++ kvs (enc ds) = kvs (ds ++ enc ds) := by rw [List.nil_append, kvs_app]
  rw [← hN] at hsl hd1 hd2 hg1 hren ⊢
  have hz : 0 + N + 3 = N + 3 := by omega
  cases ho : okC ((N + 3 : Nat) : Int) l with
  | false =>
    have hap : ∀ w' v v2, Sl w' 8 v (N + 3) (kvs (ds ++ enc ds)) → Sl w' 9 v2 l.length (cvs l) → Calls Tryz.prog 7 #[v, v2] w' fun e w2 => e = .returned (.tuple #[.slice none 0 0, .slice none 0 0, iv 1]) ∧ Below w'.heap.size w' w2 := fun w' v v2 h1 h2 => grapply_bad v v2 (ds ++ enc ds) l w' (by rw [hgl]; exact h1) h2 (by omega) (fun q => by have := q.2; rw [hgl, ho] at this; cases this)
    refine calls_wc (args := [.slice V N cV, .int .u16 s, .slice G gs.length cG, .slice D l.length cD]) [8] [] Tryz.func3 rfl Tryz.ntmps3 rfl rfl rfl rfl (H.refl _) ?_
    refine WC.seq fun K hK => ?_
    refine WC.region rfl ?_
    refine wAB rfl rfl rfl rfl rfl ?_
    refine WL.nil (hK _ _ ?_); clear hK
    refine WC.seq fun K hK => ?_
    refine WC.seq fun K hK => ?_
    refine WC.region rfl ?_
    refine WL.want rfl (WL1.callP rfl rfl rfl .nil (fun w hw => awake_top w) ?_)
    refine wG rfl rfl (g_notT rfl (.mk rfl rfl)) ?_
    refine WL.nil (hK _ _ ?_); clear hK
    refine WC.cond_false (.mk rfl rfl) ?_
    refine WC.skip ?_
    (refine hK _ _ ?_; clear hK)
    refine WC.seq fun K hK => ?_
    refine WC.seq fun K hK => ?_
    refine WC.region rfl ?_
    refine wMS rfl rfl rfl rfl rfl ?_
    refine wG rfl rfl (g_len rfl (.mk rfl rfl) rfl) ?_
    refine wG rfl rfl (g_lt rfl (.mk rfl rfl) (.mk rfl rfl) (decide_eq_false (by omega))) ?_
    refine wMB rfl rfl rfl rfl rfl ?_
    refine WL.wantG rfl rfl rfl rfl (WL1.give rfl (g_move rfl (.mk (v := .slice _ _ _) rfl rfl)) ?_)
    refine WL.wantG rfl rfl rfl rfl (WL1.give rfl (g_len rfl (.mk rfl rfl) rfl) ?_)
    refine WL.wantG rfl rfl rfl rfl (WL1.give rfl (g_gt rfl (.mk rfl rfl) (.mk rfl rfl) (decide_eq_false (by omega))) ?_)
    refine wG rfl rfl (g_pickF rfl (.mk rfl rfl) (.mk (v := .bool _) rfl rfl)) ?_
    refine wMB rfl rfl rfl rfl rfl ?_
    refine WL.wantG rfl rfl rfl rfl (WL1.give rfl (g_move rfl (.mk (v := .slice _ _ _) rfl rfl)) ?_)
    refine WL.wantG rfl rfl rfl rfl (WL1.give rfl (g_len rfl (.mk rfl rfl) rfl) ?_)
    refine WL.wantG rfl rfl rfl rfl (WL1.give rfl (g_move rfl (.mk (v := .slice _ _ _) rfl rfl)) ?_)
    refine WL.wantG rfl rfl rfl rfl (WL1.give rfl (g_len rfl (.mk rfl rfl) rfl) ?_)
    refine WL.wantG rfl rfl rfl rfl (WL1.give rfl (g_add rfl (.mk rfl rfl) (.mk rfl rfl) (IntWalk.i64_in _ (by omega))) ?_)
    refine WL.wantG rfl rfl rfl rfl (WL1.give rfl (g_lt rfl (.mk rfl rfl) (.mk rfl rfl) (decide_eq_false (by omega))) ?_)
    refine wG rfl rfl (g_pickF rfl (.mk rfl rfl) (.mk (v := .bool _) rfl rfl)) ?_
    refine wMB rfl rfl rfl rfl rfl ?_
    refine WL.wantG rfl rfl rfl rfl (WL1.give rfl (g_move rfl (.mk (v := .slice _ _ _) rfl rfl)) ?_)
    refine WL.wantG rfl rfl rfl rfl (WL1.give rfl (g_len rfl (.mk rfl rfl) rfl) ?_)
    refine WL.wantG rfl rfl rfl rfl (WL1.give rfl (g_eq rfl (.mk rfl rfl) (.mk rfl rfl) (decide_eq_false (by omega))) ?_)
    refine wG rfl rfl (g_pickF rfl (.mk rfl rfl) (.mk (v := .bool _) rfl rfl)) ?_
    refine wMB rfl rfl rfl rfl rfl ?_
    refine WL.wantG rfl rfl rfl rfl (WL1.give rfl (g_move rfl (.mk (v := .slice _ _ _) rfl rfl)) ?_)
    refine WL.wantG rfl rfl rfl rfl (WL1.give rfl (g_len rfl (.mk rfl rfl) rfl) ?_)
    refine WL.wantG rfl rfl rfl rfl (WL1.give rfl (g_gt rfl (.mk rfl rfl) (.mk rfl rfl) (decide_eq_false (by omega))) ?_)
    refine wG rfl rfl (g_pickF rfl (.mk rfl rfl) (.mk (v := .bool _) rfl rfl)) ?_
    refine WL.nil (hK _ _ ?_); clear hK
    refine WC.cond_false (.mk rfl rfl) ?_
    refine WC.skip ?_
    (refine hK _ _ ?_; clear hK)
    refine WC.seq fun K hK => ?_
    refine WC.region rfl ?_
    refine wMS rfl rfl rfl rfl rfl ?_
    (refine WL.want rfl (WL1.callN rfl rfl rfl (.cons (.mk (v := .slice _ _ _) rfl rfl) .nil) (fun w hw => hren w hw.1) ?_); rintro _ _ ⟨bp, rfl, rfl⟩)
    refine wG rfl rfl (g_move rfl (.mk (v := .tuple _) rfl rfl)) ?_
    refine wG rfl rfl (g_extract rfl (.mk rfl rfl) rfl) ?_
    refine wG rfl rfl (g_extract rfl (.mk rfl rfl) rfl) ?_
    refine wAS rfl rfl rfl rfl rfl ?_
    refine wAI rfl rfl rfl rfl rfl ?_
    refine WL.nil (hK _ _ ?_); clear hK
    refine WC.seq fun K hK => ?_
    refine WC.region rfl ?_
    refine WL.want rfl (WL1.lit (cs := []) elK rfl rfl rfl .nil rfl (by first | (simp [Value.cells]; done) | fail) rfl rfl (fun b71 => ?_))
    refine wMS rfl rfl rfl rfl rfl ?_
    refine WL.want rfl (WL1.append elK rfl rfl (.mk rfl rfl) (.mk rfl rfl) (.head) (fun w hw => Sl.below hsl hw.1) (kvs_one _) (by unfold maxLen; omega) (by omega) (fun A73 c73 => ?_))
    refine wMS rfl rfl rfl rfl rfl ?_
    refine WL.want rfl (WL1.append elK rfl rfl (.mk rfl rfl) (.mk rfl rfl) (.head) (fun w hw => Sl.of_vec hw (.tail _ (.head _))) (kvs_one _) (by unfold maxLen; omega) (by omega) (fun A75 c75 => ?_))
    refine wAS rfl rfl rfl rfl rfl ?_
    refine WL.nil (hK _ _ ?_); clear hK
    rw [hk0, hz]
    refine WC.seq fun K hK => ?_
    refine WC.region rfl ?_
    refine wMS rfl rfl rfl rfl rfl ?_
    refine wMS rfl rfl rfl rfl rfl ?_
    refine WL.want rfl (WL1.callP rfl rfl rfl (.cons (.mk (v := .slice _ _ _) rfl rfl) (.cons (.mk (v := .slice _ _ _) rfl rfl) .nil)) (fun w hw => hap w _ _ (Sl.of_vec hw (by first | ((repeat (first | exact .head _ | apply List.Mem.tail)); done) | fail)) (hsb.below hw.1)) ?_)
    refine wG rfl rfl (g_move rfl (.mk (v := .tuple _) rfl rfl)) ?_
    refine wG rfl rfl (g_extract rfl (.mk rfl rfl) rfl) ?_
    refine wG rfl rfl (g_extract rfl (.mk rfl rfl) rfl) ?_
    refine wG rfl rfl (g_extract rfl (.mk rfl rfl) rfl) ?_
    refine wAS rfl rfl rfl rfl rfl ?_
    refine wAS rfl rfl rfl rfl rfl ?_
    refine wAI rfl rfl rfl rfl rfl ?_
    refine WL.nil (hK _ _ ?_); clear hK
    refine WC.seq fun K hK => ?_
    refine WC.seq fun K hK => ?_
    refine WC.region rfl ?_
    refine wMI rfl rfl rfl rfl rfl ?_
    refine wG rfl rfl (g_ne rfl (.mk rfl rfl) (.mk rfl rfl) (decide_eq_true (by omega))) ?_
    refine WL.nil (hK _ _ ?_); clear hK
    refine WC.cond_true (.mk rfl rfl) ?_
    refine WC.seq fun K hK => ?_
    refine WC.region rfl ?_
    refine wAB rfl rfl rfl rfl rfl ?_
    refine WL.nil (hK _ _ ?_); clear hK
    refine WC.ret ?_
    exact fun w' hw' => ⟨rfl, hw'.1⟩
  | true =>
  have hN1 : 1 ≤ N := by omega
  have hN2 : N ≤ 13 := by omega
  have hN8 : N ≤ 8 := by omega
  have hqa : apL (ds ++ enc ds) l = datP ds l l.length ++ enc (datP ds l l.length) := apL_group
  have hap : ∀ w' v v2, Sl w' 8 v (N + 3) (kvs (ds ++ enc ds)) → Sl w' 9 v2 l.length (cvs l) → Calls Tryz.prog 7 #[v, v2] w' fun e w2 => ∃ v' M, e = .returned v' ∧ H w' M w2 ∧ ∃ A c F fc k g, v' = .tuple #[.slice A (N + 3) c, .slice F k fc, iv 0] ∧ M = [vec A (N + 3) c 41 8 (kvs (apL (ds ++ enc ds) l)), vec F k fc 3 1 g] := fun w' v v2 h1 h2 => by
    refine (grapply_n v v2 (ds ++ enc ds) l N w' (by rw [hgl]; exact h1) h2 hgl hN1 hN2 (by omega) hgg (by rw [hgl]; exact ho)).mono ?_
    rintro e w2 ⟨v', M, h3, h4, A1, c1, F, fc, h5, h6⟩
    rw [hgl] at h5 h6
    exact ⟨v', M, h3, h4, A1, c1, F, fc, _, _, h5, h6⟩
  have htc := fun w' hb => rtouched_n (.slice D l.length cD) l (N + 3) w' (hsb.below (w' := w') hb) (by omega)
  have hT0 := tch_pos (by omega) ho
  have hTn : (tch l (N + 3)).length ≤ N + 3 := numL_le _ _
  have hTok := tch_okT ho
  have hrd := fun w' (bs : List Bool) (A B : Option Addr) (c d : Nat) (hb : bs.length = N + 3) (h3 : mkN bs (N + 3) ≤ 3) (h : Sl w' 1 (.slice A (tch l (N + 3)).length c) (tch l (N + 3)).length (ldv (tch l (N + 3)))) (h' : Sl w' 1 (.slice B (N + 3) d) (N + 3) (bls bs)) => reads_k (w := w') (A := A) (B := B) (c := c) (d := d) (N := N) (m := N + 3) (t := (tch l (N + 3)).length) (zm := ((N + 3 : Nat) : Int)) (T := ints (tch l (N + 3))) (bs := bs) (out := refL N (ints (tch l (N + 3))) bs) rfl hb (ints_len _) rfl hN1 hN2 hTok hT0 (by omega) h3 (mkN_good h3) (o3_ref hb (mkN_good h3)) (by rw [← ldv_ints]; exact h) h'
  have hfin := fun (bs : List Bool) (h3 : mkN bs (N + 3) ≤ 3) => refL_fine (T := ints (tch l (N + 3))) (mkN_good h3)
  have hright := fun bs hb hg => cmp_right (bs := bs) (l := l) hN.symm hN1 hN2 ho hb hg
  have hres := fun p hp => res_all (p := p) hN.symm ho hp
  have hrok := fun p k hk => resL_ok (p := p) (k := k) hN2 ho hk
  have hrln := fun p => resL_len l (tch l (N + 3)) N p
  have hcntH : mkN (tab (N + 3) (htF (ds ++ enc ds) gs s (N + 3))) (N + 3) ≤ 3 := by rw [mkN_cnt]; exact hit_cnt _
  have hdec := found_dec (gs := gs) (s := s) hN.symm hN1 hN2 (m := N + 3) rfl
  have hbad := bad_is (ps := ds ++ enc ds) (gs := gs) (s := s) hgl
  have hfg := fun q hq hb => found_good (ps := ds ++ enc ds) (gs := gs) (s := s) (m := N + 3) (q := q) hq hb
  obtain ⟨ps, hps⟩ : ∃ ps, ps = ds ++ enc ds := ⟨_, rfl⟩
  obtain ⟨Y, hY⟩ : ∃ Y, Y = enc (datP ds l l.length) := ⟨_, rfl⟩
  have hY3 : Y.length = 3 := by rw [hY, enc3]
  have hres := hres Y hY3
  have hrok := hrok Y
  have hrln := hrln Y
  obtain ⟨rs, hrs⟩ : ∃ rs, rs = resL l (tch l (N + 3)) N Y := ⟨_, rfl⟩
  have hcomp := fun w' (bs : List Bool) (A B D : Option Addr) (c d e : Nat) (R : List Nat) (O : List Blk) (hbl : bs.length = N + 3) (h3 : mkN bs (N + 3) ≤ 3) (hR : R = refL N (ints (tch l (N + 3))) bs) (hO : O = R.map (nth ps)) (hRl : R.length ≤ 1000) (h1 : Sl w' 1 (.slice A R.length c) R.length (ldv R)) (h2 : Sl w' 8 (.slice B R.length d) R.length (kvs O)) (h4 : Sl w' 9 (.slice D l.length e) l.length (cvs l)) => by
    have hcm := hright bs hbl (mkN_good h3)
    rw [← hR, ← hps, ← hO, ← hY] at hcm
    have hOl : O.length = R.length := by rw [hO, List.length_map]
    have := compute_s (w := w') (A := A) (B := B) (D := D) (c := c) (d := d) (e := e) hcm rfl hN1 hN2 ho hl0 (by omega) (by rw [ints_len, hOl]) (by rw [ints_len]; exact hRl) (by rw [ints_len, ← ldv_ints]; exact h1) (by rw [hOl]; exact h2) h4
    rw [ints_len, hOl, ← hrs] at this
    exact this
  rw [← hps] at hres hap hgl hqa hk0 hcntH hdec hbad hfg
  have hqa2 : apL ps l = datP ds l l.length ++ Y := by rw [hqa, hY]
  rw [← hqa2] at hres
  obtain ⟨T, hT⟩ : ∃ T, T = tch l (N + 3) := ⟨_, rfl⟩
  rw [← hT] at htc hT0 hTn hrd hcomp hres hrok hrln hrs hfin
  rw [← hrs] at hres hrok hrln
  obtain ⟨qs, hqs⟩ : ∃ qs, qs = apL ps l := ⟨_, rfl⟩
  rw [← hqs] at hap hres
  have hql : qs.length = N + 3 := by rw [← hres, datP_len, hgl]
  have hmu := made_u64 (N + 3)
  have hmb := made_bo' (N + 3)
  clear hright hqs hT hrs hY hps hqa hqa2 hTok
  have hzero := fun w => pzero_n (m := N + 3) (g := 7) w (by omega) (by omega) (by omega)
  have hrep : List.replicate (N + 3) 0 = tab (N + 3) fun _ => 0 := tab_rep _ _
  rw [hrep] at hzero
  replace hzero : ∀ w, Calls Tryz.prog 8 #[iv 7, iv ((N + 3 : Nat) : Int)] w fun e w' => ∃ u M, e = .returned u ∧ H w M w' ∧ ∃ R r S s, u = lfV R r S s (N + 3) ∧ M = [vec R (N + 3) r UT 1 (u64s (tab (N + 3) fun _ => 0)), vec S (N + 3) s UT 1 (u64s (tab (N + 3) fun q => sumN 7 q 0 0))] := hzero
  rw [← v1F_zero, ← s1F_zero (ps := ps)] at hzero
  have hmk := fun w => tmarks_n (N + 3) s w (by omega) hs
  rw [← htF_zero (ps := ps) (gs := gs)] at hmk
  refine calls_wc (args := [.slice V N cV, .int .u16 s, .slice G gs.length cG, .slice D l.length cD]) [8] [] Tryz.func3 rfl Tryz.ntmps3 rfl rfl rfl rfl (H.refl _) ?_
  refine WC.seq fun K hK => ?_
  refine WC.region rfl ?_
  refine wAB rfl rfl rfl rfl rfl ?_
  refine WL.nil (hK _ _ ?_); clear hK
  refine WC.seq fun K hK => ?_
  refine WC.seq fun K hK => ?_
  refine WC.region rfl ?_
  refine WL.want rfl (WL1.callP rfl rfl rfl .nil (fun w hw => awake_top w) ?_)
  refine wG rfl rfl (g_notT rfl (.mk rfl rfl)) ?_
  refine WL.nil (hK _ _ ?_); clear hK
  refine WC.cond_false (.mk rfl rfl) ?_
  refine WC.skip ?_
  (refine hK _ _ ?_; clear hK)
  refine WC.seq fun K hK => ?_
  refine WC.seq fun K hK => ?_
  refine WC.region rfl ?_
  refine wMS rfl rfl rfl rfl rfl ?_
  refine wG rfl rfl (g_len rfl (.mk rfl rfl) rfl) ?_
  refine wG rfl rfl (g_lt rfl (.mk rfl rfl) (.mk rfl rfl) (decide_eq_false (by omega))) ?_
  refine wMB rfl rfl rfl rfl rfl ?_
  refine WL.wantG rfl rfl rfl rfl (WL1.give rfl (g_move rfl (.mk (v := .slice _ _ _) rfl rfl)) ?_)
  refine WL.wantG rfl rfl rfl rfl (WL1.give rfl (g_len rfl (.mk rfl rfl) rfl) ?_)
  refine WL.wantG rfl rfl rfl rfl (WL1.give rfl (g_gt rfl (.mk rfl rfl) (.mk rfl rfl) (decide_eq_false (by omega))) ?_)
  refine wG rfl rfl (g_pickF rfl (.mk rfl rfl) (.mk (v := .bool _) rfl rfl)) ?_
  refine wMB rfl rfl rfl rfl rfl ?_
  refine WL.wantG rfl rfl rfl rfl (WL1.give rfl (g_move rfl (.mk (v := .slice _ _ _) rfl rfl)) ?_)
  refine WL.wantG rfl rfl rfl rfl (WL1.give rfl (g_len rfl (.mk rfl rfl) rfl) ?_)
  refine WL.wantG rfl rfl rfl rfl (WL1.give rfl (g_move rfl (.mk (v := .slice _ _ _) rfl rfl)) ?_)
  refine WL.wantG rfl rfl rfl rfl (WL1.give rfl (g_len rfl (.mk rfl rfl) rfl) ?_)
  refine WL.wantG rfl rfl rfl rfl (WL1.give rfl (g_add rfl (.mk rfl rfl) (.mk rfl rfl) (IntWalk.i64_in _ (by omega))) ?_)
  refine WL.wantG rfl rfl rfl rfl (WL1.give rfl (g_lt rfl (.mk rfl rfl) (.mk rfl rfl) (decide_eq_false (by omega))) ?_)
  refine wG rfl rfl (g_pickF rfl (.mk rfl rfl) (.mk (v := .bool _) rfl rfl)) ?_
  refine wMB rfl rfl rfl rfl rfl ?_
  refine WL.wantG rfl rfl rfl rfl (WL1.give rfl (g_move rfl (.mk (v := .slice _ _ _) rfl rfl)) ?_)
  refine WL.wantG rfl rfl rfl rfl (WL1.give rfl (g_len rfl (.mk rfl rfl) rfl) ?_)
  refine WL.wantG rfl rfl rfl rfl (WL1.give rfl (g_eq rfl (.mk rfl rfl) (.mk rfl rfl) (decide_eq_false (by omega))) ?_)
  refine wG rfl rfl (g_pickF rfl (.mk rfl rfl) (.mk (v := .bool _) rfl rfl)) ?_
  refine wMB rfl rfl rfl rfl rfl ?_
  refine WL.wantG rfl rfl rfl rfl (WL1.give rfl (g_move rfl (.mk (v := .slice _ _ _) rfl rfl)) ?_)
  refine WL.wantG rfl rfl rfl rfl (WL1.give rfl (g_len rfl (.mk rfl rfl) rfl) ?_)
  refine WL.wantG rfl rfl rfl rfl (WL1.give rfl (g_gt rfl (.mk rfl rfl) (.mk rfl rfl) (decide_eq_false (by omega))) ?_)
  refine wG rfl rfl (g_pickF rfl (.mk rfl rfl) (.mk (v := .bool _) rfl rfl)) ?_
  refine WL.nil (hK _ _ ?_); clear hK
  refine WC.cond_false (.mk rfl rfl) ?_
  refine WC.skip ?_
  (refine hK _ _ ?_; clear hK)
  refine WC.seq fun K hK => ?_
  refine WC.region rfl ?_
  refine wMS rfl rfl rfl rfl rfl ?_
  (refine WL.want rfl (WL1.callN rfl rfl rfl (.cons (.mk (v := .slice _ _ _) rfl rfl) .nil) (fun w hw => hren w hw.1) ?_); rintro _ _ ⟨bp, rfl, rfl⟩)
  refine wG rfl rfl (g_move rfl (.mk (v := .tuple _) rfl rfl)) ?_
  refine wG rfl rfl (g_extract rfl (.mk rfl rfl) rfl) ?_
  refine wG rfl rfl (g_extract rfl (.mk rfl rfl) rfl) ?_
  refine wAS rfl rfl rfl rfl rfl ?_
  refine wAI rfl rfl rfl rfl rfl ?_
  refine WL.nil (hK _ _ ?_); clear hK
  refine WC.seq fun K hK => ?_
  refine WC.region rfl ?_
  refine WL.want rfl (WL1.lit (cs := []) elK rfl rfl rfl .nil rfl (by first | (simp [Value.cells]; done) | fail) rfl rfl (fun b71 => ?_))
  refine wMS rfl rfl rfl rfl rfl ?_
  refine WL.want rfl (WL1.append elK rfl rfl (.mk rfl rfl) (.mk rfl rfl) (.head) (fun w hw => Sl.below hsl hw.1) (kvs_one _) (by unfold maxLen; omega) (by omega) (fun A73 c73 => ?_))
  refine wMS rfl rfl rfl rfl rfl ?_
  refine WL.want rfl (WL1.append elK rfl rfl (.mk rfl rfl) (.mk rfl rfl) (.head) (fun w hw => Sl.of_vec hw (.tail _ (.head _))) (kvs_one _) (by unfold maxLen; omega) (by omega) (fun A75 c75 => ?_))
  refine wAS rfl rfl rfl rfl rfl ?_
  refine WL.nil (hK _ _ ?_); clear hK
  rw [hk0, hz]
  refine WC.seq fun K hK => ?_
  refine WC.region rfl ?_
  refine wMS rfl rfl rfl rfl rfl ?_
  refine wMS rfl rfl rfl rfl rfl ?_
  (refine WL.want rfl (WL1.callN rfl rfl rfl (.cons (.mk (v := .slice _ _ _) rfl rfl) (.cons (.mk (v := .slice _ _ _) rfl rfl) .nil)) (fun w hw => hap w _ _ (Sl.of_vec hw (by first | ((repeat (first | exact .head _ | apply List.Mem.tail)); done) | fail)) (hsb.below hw.1)) ?_); rintro _ _ ⟨Aw, cw, Fd, fd, kd, gd, rfl, rfl⟩)
  refine wG rfl rfl (g_move rfl (.mk (v := .tuple _) rfl rfl)) ?_
  refine wG rfl rfl (g_extract rfl (.mk rfl rfl) rfl) ?_
  refine wG rfl rfl (g_extract rfl (.mk rfl rfl) rfl) ?_
  refine wG rfl rfl (g_extract rfl (.mk rfl rfl) rfl) ?_
  refine wAS rfl rfl rfl rfl rfl ?_
  refine wAS rfl rfl rfl rfl rfl ?_
  refine wAI rfl rfl rfl rfl rfl ?_
  refine WL.nil (hK _ _ ?_); clear hK
  refine WC.seq fun K hK => ?_
  refine WC.seq fun K hK => ?_
  refine WC.region rfl ?_
  refine wMI rfl rfl rfl rfl rfl ?_
  refine wG rfl rfl (g_ne rfl (.mk rfl rfl) (.mk rfl rfl) (decide_eq_false (by omega))) ?_
  refine WL.nil (hK _ _ ?_); clear hK
  refine WC.cond_false (.mk rfl rfl) ?_
  refine WC.skip ?_
  (refine hK _ _ ?_; clear hK)
  refine WC.seq fun K hK => ?_
  refine WC.region rfl ?_
  refine wMS rfl rfl rfl rfl rfl ?_
  refine wG rfl rfl (g_len rfl (.mk rfl rfl) rfl) ?_
  (refine WL.want rfl (WL1.callN rfl rfl rfl (.cons (.mk (v := .int _ _) rfl rfl) (.cons (.mk (v := .int _ _) rfl rfl) .nil)) (fun w hw => hzero w) ?_); rintro _ _ ⟨Rz, rz, Sz, sz, rfl, rfl⟩)
  refine WL.want rfl (WL1.alloc rfl rfl rfl rfl (fun b15 => ?_))
  refine WL.want rfl (WL1.storeAll rfl rfl (.mk rfl rfl) (.mk rfl rfl) rfl (all1 rfl) (by first | rfl | (simp [Blk.len]; done)) (.head) ?_)
  refine WL.nil (hK _ _ ?_); clear hK
  refine WC.seqF (fun q : Nat × Nat => [(16, .slice (some ⟨q.1, 0, none⟩) (N + 3) (N + 3)), (17, .slice (some ⟨q.2, 0, none⟩) (N + 3) (N + 3)), (15, cellPtr (some ⟨b15, 0, none⟩) 0), (11, .slice A75 (N + 3) c75), (12, .slice Aw (N + 3) cw), (1, .int .u16 s), (2, .slice G gs.length cG), (3, .slice D l.length cD)]) (fun q => [vec (some ⟨q.1, 0, none⟩) (N + 3) (N + 3) UT 1 (u64s (tab (N + 3) (v1F 0))), vec (some ⟨q.2, 0, none⟩) (N + 3) (N + 3) 4 1 (bls (tab (N + 3) (p1F 0))), pt b15 LFT [.slice Rz (N + 3) rz, .slice Sz (N + 3) sz], vec Rz (N + 3) rz UT 1 (u64s (tab (N + 3) (v1F 0))), vec Sz (N + 3) sz UT 1 (u64s (tab (N + 3) (s1F ps 0))), vec A75 (N + 3) c75 41 8 (kvs ps), vec Aw (N + 3) cw 41 8 (kvs qs)]) (fun _ => True) ?_ (fun q U _ => ?_)
  · refine WC.split 0 rfl (by kernel_rfl) (by decide +kernel) ?_
    refine WQ.nil ?_
    refine WY.take 0 rfl (by decide +kernel) (by decide +kernel) (by decide +kernel) rfl rfl (g_move rfl (.mk (v := .slice _ _ _) rfl rfl)) ?_
    refine WY.take 1 rfl (by decide +kernel) (by decide +kernel) (by decide +kernel) rfl rfl (g_len rfl (.mk rfl rfl) rfl) ?_
    refine WY.take 3 rfl (by decide +kernel) (by decide +kernel) (by decide +kernel) rfl rfl (g_move rfl (.mk (v := .slice _ _ _) rfl rfl)) ?_
    refine WY.take 4 rfl (by decide +kernel) (by decide +kernel) (by decide +kernel) rfl rfl (g_len rfl (.mk rfl rfl) rfl) ?_
    refine WY.two 2 5 (by decide +kernel) rfl rfl rfl rfl ?_ ?_
    refine WL1.make elU rfl rfl (.mk rfl rfl) (.mk rfl rfl) rfl rfl (by omega) (by unfold maxLen; omega) (fun b90 => ?_)
    refine WL.nil ?_
    refine WY.take 6 rfl (by decide +kernel) (by decide +kernel) (by decide +kernel) rfl rfl (g_assign rfl (.mk (v := .slice _ _ _) rfl rfl)) ?_
    refine WY.one 5 (by decide +kernel) rfl rfl ?_
    refine WL1.make elBo rfl rfl (.mk rfl rfl) (.mk rfl rfl) rfl rfl (by omega) (by unfold maxLen; omega) (fun b93 => ?_)
    refine WL.nil ?_
    refine WY.take 7 rfl (by decide +kernel) (by decide +kernel) (by decide +kernel) rfl rfl (g_assign rfl (.mk (v := .slice _ _ _) rfl rfl)) ?_
    refine WY.done (by decide +kernel) ?_
    rotate_left
    refine WL1.make elBo rfl rfl (.mk rfl rfl) (.mk rfl rfl) rfl rfl (by omega) (by unfold maxLen; omega) (fun b93 => ?_)
    refine WL.nil ?_
    refine WY.one 2 (by decide +kernel) rfl rfl ?_
    refine WL1.make elU rfl rfl (.mk rfl rfl) (.mk rfl rfl) rfl rfl (by omega) (by unfold maxLen; omega) (fun b90 => ?_)
    refine WL.nil ?_
    refine WY.take 6 rfl (by decide +kernel) (by decide +kernel) (by decide +kernel) rfl rfl (g_assign rfl (.mk (v := .slice _ _ _) rfl rfl)) ?_
    refine WY.take 7 rfl (by decide +kernel) (by decide +kernel) (by decide +kernel) rfl rfl (g_assign rfl (.mk (v := .slice _ _ _) rfl rfl)) ?_
    refine WY.done (by decide +kernel) ?_
    rotate_left
    · refine ⟨(b90, b93), (by repeat (first | exact trivial | refine ⟨rfl, ?_⟩)), ?_, trivial⟩
      rw [hmu, hmb, ← v1F_zero, ← p1F_zero]
      exact Imp.pick (by repeat (first | exact .head | apply Take.tail)) (Imp.pick (by repeat (first | exact .head | apply Take.tail)) (Imp.pick (by repeat (first | exact .head | apply Take.tail)) (Imp.pick (by repeat (first | exact .head | apply Take.tail)) (Imp.pick (by repeat (first | exact .head | apply Take.tail)) (Imp.pick (by repeat (first | exact .head | apply Take.tail)) (Imp.pick (by repeat (first | exact .head | apply Take.tail)) (Imp.nil _)))))))
    · refine ⟨(b90, b93), (by repeat (first | exact trivial | refine ⟨rfl, ?_⟩)), ?_, trivial⟩
      rw [hmu, hmb, ← v1F_zero, ← p1F_zero]
      exact Imp.pick (by repeat (first | exact .head | apply Take.tail)) (Imp.pick (by repeat (first | exact .head | apply Take.tail)) (Imp.pick (by repeat (first | exact .head | apply Take.tail)) (Imp.pick (by repeat (first | exact .head | apply Take.tail)) (Imp.pick (by repeat (first | exact .head | apply Take.tail)) (Imp.pick (by repeat (first | exact .head | apply Take.tail)) (Imp.pick (by repeat (first | exact .head | apply Take.tail)) (Imp.nil _)))))))
  obtain ⟨q1, q2⟩ := q
  clear hzero hren hap hmu hmb hrep
  refine WC.seq fun K hK => ?_
  refine WC.seq fun K hK => ?_
  refine WC.region rfl ?_
  refine wMS rfl rfl rfl rfl rfl ?_
  refine wG rfl rfl (g_len rfl (.mk rfl rfl) rfl) ?_
  refine wMI rfl rfl rfl rfl rfl ?_
  refine WL.nil (hK _ _ ?_); clear hK
  refine WC.block ?_
  refine WC.loopF5 (fun (i : Nat) (R : Option Addr) (r : Nat) (S : Option Addr) (z : Nat) => [(96, iv i), (95, iv ((N + 3 : Nat) : Int)), (16, .slice (some ⟨q1, 0, none⟩) (N + 3) (N + 3)), (17, .slice (some ⟨q2, 0, none⟩) (N + 3) (N + 3)), (15, cellPtr (some ⟨b15, 0, none⟩) 0), (11, .slice A75 (N + 3) c75), (12, .slice Aw (N + 3) cw), (1, .int .u16 s), (2, .slice G gs.length cG), (3, .slice D l.length cD)]) (fun i R r S z => [vec (some ⟨q1, 0, none⟩) (N + 3) (N + 3) UT 1 (u64s (tab (N + 3) (v1F i))), vec (some ⟨q2, 0, none⟩) (N + 3) (N + 3) 4 1 (bls (tab (N + 3) (p1F i))), pt b15 LFT [.slice R (N + 3) r, .slice S (N + 3) z], vec R (N + 3) r UT 1 (u64s (tab (N + 3) (v1F i))), vec S (N + 3) z UT 1 (u64s (tab (N + 3) (s1F ps i))), vec A75 (N + 3) c75 41 8 (kvs ps), vec Aw (N + 3) cw 41 8 (kvs qs)]) (fun i _ _ _ _ => i ≤ N + 3) (fun i _ _ _ _ => N + 3 - i) 0 Rz rz Sz sz (by repeat (first | exact trivial | refine ⟨rfl, ?_⟩)) (Imp.pick (by repeat (first | exact .head | apply Take.tail)) (Imp.pick (by repeat (first | exact .head | apply Take.tail)) (Imp.pick (by repeat (first | exact .head | apply Take.tail)) (Imp.pick (by repeat (first | exact .head | apply Take.tail)) (Imp.pick (by repeat (first | exact .head | apply Take.tail)) (Imp.pick (by repeat (first | exact .head | apply Take.tail)) (Imp.pick (by repeat (first | exact .head | apply Take.tail)) (Imp.nil _)))))))) (by omega) ?_
  intro i R r S z U2 hi
  by_cases hlt : i < N + 3
  · have hset := fun w' hA hB => pset_n (A := R) (B := S) (c := r) (d := z) (m := N + 3) (g := 7) (i := i) (v := i + 3) (vs := tab (N + 3) (v1F i)) (ss := tab (N + 3) (s1F ps i)) (dt := nth ps i) w' hA hB (tab_len _ _) (tab_len _ _) hlt (by omega) (by omega)
    rw [v1F_set hlt, s1F_set hlt] at hset
    have hcv : IntKind.u64.wrap ((i : Int) + 3) = ((i + 3 : Nat) : Int) := by rw [show (i : Int) + 3 = ((i + 3 : Nat) : Int) from by omega]; exact u64n _ (by omega)
    have gp : ∀ t u, (nth ps i).cells[t]? = some u → (kvs ps)[i * 8 + t]? = some u := fun t u h => flat_row blk8 (by omega) t u h
    have hs1 := v1F_set hlt
    have hs2 := p1F_set hlt
    have hl1 : (u64s (tab (N + 3) (v1F i))).length = N + 3 := by rw [u64s_len, tab_len]
    have hl2 : (bls (tab (N + 3) (p1F i))).length = N + 3 := by rw [bls_len, tab_len]
    have hp1 : ∀ k, k = i * 1 → (u64s (tab (N + 3) (v1F i))).set k (u64 (i + 3)) = u64s (tab (N + 3) (v1F (i + 1))) := fun k hk => by rw [u64s_set hk, hs1]
    have hp2 : ∀ k, k = i * 1 → (bls (tab (N + 3) (p1F i))).set k (.bool true) = bls (tab (N + 3) (p1F (i + 1))) := fun k hk => by rw [bls_put (hk.trans (Nat.mul_one i)), hs2]
    generalize nth ps i = y at *
    replace hset : ∀ w', Sl w' 1 (.slice R (N + 3) r) (N + 3) (u64s (tab (N + 3) (v1F i))) → Sl w' 1 (.slice S (N + 3) z) (N + 3) (u64s (tab (N + 3) (s1F ps i))) → Calls Tryz.prog 9 #[.agg #[.slice R (N + 3) r, .slice S (N + 3) z], .agg (iv 7 :: iv i :: u64 (i + 3) :: y.cells).toArray] w' fun e w2 => ∃ u M, e = .returned u ∧ H w' M w2 ∧ ∃ R r S s, u = .tuple #[.agg #[.slice R (N + 3) r, .slice S (N + 3) s], iv 0] ∧ M = [vec R (N + 3) r UT 1 (u64s (tab (N + 3) (v1F (i + 1)))), vec S (N + 3) s UT 1 (u64s (tab (N + 3) (s1F ps (i + 1))))] := hset
    refine WC.seq fun K hK => ?_
    refine WC.region rfl ?_
    refine wG rfl rfl (g_lt rfl (.mk rfl rfl) (.mk rfl rfl) (decide_eq_true (by omega))) ?_
    refine WL.nil (hK _ _ ?_); clear hK
    refine WC.seq fun K hK => ?_
    refine WC.cond_true (.mk rfl rfl) ?_
    refine WC.skip ?_
    (refine hK _ _ ?_; clear hK)
    refine WC.seq fun K hK => ?_
    refine WC.block ?_
    refine WC.seq fun K hK => ?_
    refine WC.region rfl ?_
    refine wMI rfl rfl rfl rfl rfl ?_
    refine wAI rfl rfl rfl rfl rfl ?_
    refine WL.nil (hK _ _ ?_); clear hK
    refine WC.seq fun K hK => ?_
    refine WC.region rfl ?_
    refine wAI rfl rfl rfl rfl rfl ?_
    refine WL.nil (hK _ _ ?_); clear hK
    refine WC.seq fun K hK => ?_
    refine WC.seq fun K hK => ?_
    refine WC.untilL [14, 15] rfl (by kernel_rfl) ?_
    refine WB.take 0 rfl (by decide +kernel) (by decide +kernel) (by decide +kernel) (by decide +kernel) rfl rfl (Imp.sub (by first | ((repeat (first | exact List.nil_sublist _ | exact List.Sublist.refl _ | apply List.Sublist.cons_cons | apply List.Sublist.cons)); done) | fail)) (g_loadA rfl (.mk rfl rfl) rfl rfl (rdr_pt (.tail _ (.tail _ (.head _))) (fun j u h => by simpa using h))) ?_
    refine WB.takeP 1 rfl (by decide +kernel) (by decide +kernel) (by decide +kernel) (by decide +kernel) rfl rfl (.inr (Imp.sub (by first | ((repeat (first | exact List.nil_sublist _ | exact List.Sublist.refl _ | apply List.Sublist.cons_cons | apply List.Sublist.cons)); done) | fail))) (g_move rfl (.mk (v := .int _ _) rfl rfl)) ?_
    refine WB.takeP 2 rfl (by decide +kernel) (by decide +kernel) (by decide +kernel) (by decide +kernel) rfl rfl (.inr (Imp.sub (by first | ((repeat (first | exact List.nil_sublist _ | exact List.Sublist.refl _ | apply List.Sublist.cons_cons | apply List.Sublist.cons)); done) | fail))) (g_move rfl (.mk (v := .int _ _) rfl rfl)) ?_
    refine WB.takeP 3 rfl (by decide +kernel) (by decide +kernel) (by decide +kernel) (by decide +kernel) rfl rfl (.inr (Imp.sub (by first | ((repeat (first | exact List.nil_sublist _ | exact List.Sublist.refl _ | apply List.Sublist.cons_cons | apply List.Sublist.cons)); done) | fail))) (g_add rfl (.mk rfl rfl) (.mk rfl rfl) (IntWalk.i64_in _ (by omega))) ?_
    refine WB.takeP 4 rfl (by decide +kernel) (by decide +kernel) (by decide +kernel) (by decide +kernel) rfl rfl (.inr (Imp.sub (by first | ((repeat (first | exact List.nil_sublist _ | exact List.Sublist.refl _ | apply List.Sublist.cons_cons | apply List.Sublist.cons)); done) | fail))) (g_conv rfl rfl rfl (.mk rfl rfl) hcv) ?_
    refine WB.takeP 5 rfl (by decide +kernel) (by decide +kernel) (by decide +kernel) (by decide +kernel) rfl rfl (.inr (Imp.sub (by first | ((repeat (first | exact List.nil_sublist _ | exact List.Sublist.refl _ | apply List.Sublist.cons_cons | apply List.Sublist.cons)); done) | fail))) (g_move rfl (.mk (v := .slice _ _ _) rfl rfl)) ?_
    refine WB.takeP 6 rfl (by decide +kernel) (by decide +kernel) (by decide +kernel) (by decide +kernel) rfl rfl (.inr (Imp.sub (by first | ((repeat (first | exact List.nil_sublist _ | exact List.Sublist.refl _ | apply List.Sublist.cons_cons | apply List.Sublist.cons)); done) | fail))) (g_move rfl (.mk (v := .int _ _) rfl rfl)) ?_
    refine WB.take 7 rfl (by decide +kernel) (by decide +kernel) (by decide +kernel) (by decide +kernel) rfl rfl (Imp.sub (by first | ((repeat (first | exact List.nil_sublist _ | exact List.Sublist.refl _ | apply List.Sublist.cons_cons | apply List.Sublist.cons)); done) | fail)) (g_indexAddr (sz := 8) rfl (.mk rfl rfl) (.mk rfl rfl) rfl rfl rfl (by omega) (fun w hw => vec_some hw (.tail _ (.tail _ (.tail _ (.tail _ (.tail _ (.head _)))))) (by omega))) ?_
    refine WB.take 8 rfl (by decide +kernel) (by decide +kernel) (by decide +kernel) (by decide +kernel) rfl rfl (Imp.sub (by first | ((repeat (first | exact List.nil_sublist _ | exact List.Sublist.refl _ | apply List.Sublist.cons_cons | apply List.Sublist.cons)); done) | fail)) (g_loadA rfl (.mk rfl rfl) rfl (sz8 _) (rdr_vec (cs := y.cells) (by first | ((repeat (first | exact .head _ | apply List.Mem.tail)); done) | fail) (by omega) gp)) ?_
    refine WB.takeP 9 rfl (by decide +kernel) (by decide +kernel) (by decide +kernel) (by decide +kernel) rfl rfl (.inr (Imp.sub (by first | ((repeat (first | exact List.nil_sublist _ | exact List.Sublist.refl _ | apply List.Sublist.cons_cons | apply List.Sublist.cons)); done) | fail))) (g_buildS (us := [(0, [_]), (1, [_]), (2, [_]), (3, y.cells)]) (cs := iv 7 :: iv i :: u64 (i + 3) :: y.cells) rfl rfl rfl rfl (.cons (.mk (v := .int _ _) rfl rfl) (.cons (.mk (v := .int _ _) rfl rfl) (.cons (.mk (v := .int _ _) rfl rfl) (.cons (.mk (v := .agg _) rfl rfl) .nil)))) rfl (fun p hp => by simp only [List.mem_cons, List.not_mem_nil, or_false] at hp; rcases hp with rfl | rfl | rfl | rfl <;> exact ⟨_, _, rfl, by first | rfl | exact Blk.len _, Nat.le_of_ble_eq_true rfl⟩) (pw_spl _ _ _ _)) ?_
    refine WB.one 10 (by decide +kernel) rfl rfl ?_
    (refine WL1.callN rfl rfl rfl (.cons (.mk (v := .agg _) rfl rfl) (.cons (.mk (v := .agg _) rfl rfl) .nil)) (fun w hw => hset w (Sl.of_vec hw (by first | ((repeat (first | exact .head _ | apply List.Mem.tail)); done) | fail)) (Sl.of_vec hw (by first | ((repeat (first | exact .head _ | apply List.Mem.tail)); done) | fail))) ?_; rintro _ _ ⟨R2, r2, S2, s2, rfl, rfl⟩)
    refine WL.nil ?_
    refine ⟨.inr (Imp.sub (by first | ((repeat (first | exact List.nil_sublist _ | exact List.Sublist.refl _ | apply List.Sublist.cons_cons | apply List.Sublist.cons)); done) | fail)), ?_⟩
    refine WB.takeP 11 rfl (by decide +kernel) (by decide +kernel) (by decide +kernel) (by decide +kernel) rfl rfl (.inr (Imp.sub (by first | ((repeat (first | exact List.nil_sublist _ | exact List.Sublist.refl _ | apply List.Sublist.cons_cons | apply List.Sublist.cons)); done) | fail))) (g_move rfl (.mk (v := .tuple _) rfl rfl)) ?_
    refine WB.takeP 12 rfl (by decide +kernel) (by decide +kernel) (by decide +kernel) (by decide +kernel) rfl rfl (.inr (Imp.sub (by first | ((repeat (first | exact List.nil_sublist _ | exact List.Sublist.refl _ | apply List.Sublist.cons_cons | apply List.Sublist.cons)); done) | fail))) (g_extract rfl (.mk rfl rfl) rfl) ?_
    refine WB.takeP 13 rfl (by decide +kernel) (by decide +kernel) (by decide +kernel) (by decide +kernel) rfl rfl (.inr (Imp.sub (by first | ((repeat (first | exact List.nil_sublist _ | exact List.Sublist.refl _ | apply List.Sublist.cons_cons | apply List.Sublist.cons)); done) | fail))) (g_extract rfl (.mk rfl rfl) rfl) ?_
    refine WB.one 14 (by decide +kernel) rfl rfl ?_
    refine WL1.storeAll rfl rfl (.mk rfl rfl) (.mk rfl rfl) rfl (all1 rfl) (by first | rfl | (simp [Blk.len]; done)) (.tail (.tail (.tail (.tail (.head))))) ?_
    refine WL.nil ?_
    refine ⟨.inl (by decide +kernel), ?_⟩
    refine WB.one 15 (by decide +kernel) rfl rfl ?_
    refine WL1.give rfl (g_assign rfl (.mk (v := .int _ _) rfl rfl)) ?_
    refine WL.nil ?_
    refine ⟨.inl (by decide +kernel), ?_⟩
    refine WB.done (by decide +kernel) ?_
    (refine hK _ _ ?_; clear hK)
    refine WC.seq fun K hK => ?_
    refine WC.region rfl ?_
    refine wMI rfl rfl rfl rfl rfl ?_
    refine wG rfl rfl (g_ne rfl (.mk rfl rfl) (.mk rfl rfl) (decide_eq_false (by omega))) ?_
    refine WL.nil (hK _ _ ?_); clear hK
    refine WC.cond_false (.mk rfl rfl) ?_
    refine WC.skip ?_
    (refine hK _ _ ?_; clear hK)
    refine WC.region rfl ?_
    refine wMS rfl rfl rfl rfl rfl ?_
    refine wMI rfl rfl rfl rfl rfl ?_
    refine wMS rfl rfl rfl rfl rfl ?_
    refine wMI rfl rfl rfl rfl rfl ?_
    refine wMI rfl rfl rfl rfl rfl ?_
    refine wG rfl rfl (g_add rfl (.mk rfl rfl) (.mk rfl rfl) (IntWalk.i64_in _ (by omega))) ?_
    refine wG rfl rfl (g_conv rfl rfl rfl (.mk rfl rfl) hcv) ?_
    refine wG rfl rfl (g_indexAddr (sz := 1) rfl (.mk rfl rfl) (.mk rfl rfl) rfl rfl rfl (by omega) (fun _ _ => rfl)) ?_
    refine WL.want rfl (WL1.storeV1 rfl rfl (.mk rfl rfl) (.mk (v := .int _ _) rfl rfl) rfl rfl (by first | omega | (simp; done) | (simp; omega)) (.tail (.tail (.head))) ?_)
    refine wG rfl rfl (g_indexAddr (sz := 1) rfl (.mk rfl rfl) (.mk rfl rfl) rfl rfl rfl (by omega) (fun _ _ => rfl)) ?_
    refine WL.want rfl (WL1.storeV1 rfl rfl (.mk rfl rfl) (.mk (v := .bool _) rfl rfl) rfl rfl (by first | omega | (simp; done) | (simp; omega)) (.tail (.tail (.tail (.head)))) ?_)
    refine WL.nil (hK _ _ ?_); clear hK
    refine WC.region rfl ?_
    refine wG rfl rfl (g_add rfl (.mk rfl rfl) (.mk rfl rfl) (IntWalk.i64_in _ (by omega))) ?_
    refine wMI rfl rfl rfl rfl rfl ?_
    refine WL.nil ?_
    refine ⟨i + 1, R2, r2, S2, s2, (by repeat (first | exact trivial | refine ⟨rfl, ?_⟩)), ?_, by omega, by omega⟩
    rw [← hp1 _ rfl, ← hp2 _ rfl]
    exact Imp.pick (by repeat (first | exact .head | apply Take.tail)) (Imp.pick (by repeat (first | exact .head | apply Take.tail)) (Imp.pick (by repeat (first | exact .head | apply Take.tail)) (Imp.pick (by repeat (first | exact .head | apply Take.tail)) (Imp.pick (by repeat (first | exact .head | apply Take.tail)) (Imp.pick (by repeat (first | exact .head | apply Take.tail)) (Imp.pick (by repeat (first | exact .head | apply Take.tail)) (Imp.nil _)))))))
  obtain rfl : i = N + 3 := by omega
  have e1 := v1F_all (N + 3)
  have e2 := p1F_all (N + 3)
  have e3 := s1F_all (ps := ps) (N + 3)
  rw [e1, e2, e3]
  clear e1 e2 e3
  refine WC.seq fun K hK => ?_
  refine WC.region rfl ?_
  refine wG rfl rfl (g_lt rfl (.mk rfl rfl) (.mk rfl rfl) (decide_eq_false (by omega))) ?_
  refine WL.nil (hK _ _ ?_); clear hK
  refine WC.seq fun K hK => ?_
  refine WC.cond_false (.mk rfl rfl) ?_
  refine WC.exit ?_
  (clear hK; refine hK _ _ ?_; clear hK)
  refine WC.seq fun K hK => ?_
  refine WC.region rfl ?_
  refine wMS rfl rfl rfl rfl rfl ?_
  refine wG rfl rfl (g_len rfl (.mk rfl rfl) rfl) ?_
  refine wMI rfl rfl rfl rfl rfl ?_
  (refine WL.want rfl (WL1.callN rfl rfl rfl (.cons (.mk (v := .int _ _) rfl rfl) (.cons (.mk (v := .int _ _) rfl rfl) .nil)) (fun w hw => hmk w) ?_); rintro _ _ ⟨bh, rfl, rfl⟩)
  refine wAS rfl rfl rfl rfl rfl ?_
  refine WL.nil (hK _ _ ?_); clear hK
  refine WC.seq fun K hK => ?_
  refine WC.region rfl ?_
  refine WL.want rfl (WL1.lit (cs := []) elK rfl rfl rfl .nil rfl (by first | (simp [Value.cells]; done) | fail) rfl rfl (fun b129 => ?_))
  refine wMS rfl rfl rfl rfl rfl ?_
  refine WL.want rfl (WL1.append elK rfl rfl (.mk rfl rfl) (.mk rfl rfl) (.head) (fun w hw => Sl.of_vec hw (.tail _ (.tail _ (.tail _ (.tail _ (.tail _ (.tail _ (.tail _ (.head _))))))))) (kvs_one _) (by unfold maxLen; omega) (by omega) (fun A131 c131 => ?_))
  refine wAS rfl rfl rfl rfl rfl ?_
  refine WL.nil (hK _ _ ?_); clear hK
  refine WC.seq fun K hK => ?_
  refine WC.seq fun K hK => ?_
  refine WC.region rfl ?_
  refine wMS rfl rfl rfl rfl rfl ?_
  refine wG rfl rfl (g_len rfl (.mk rfl rfl) rfl) ?_
  refine wMI rfl rfl rfl rfl rfl ?_
  refine WL.nil (hK _ _ ?_); clear hK
  refine WC.block ?_
  have hkv0 : [] ++ kvs ps = kvs (tab (N + 3) (fsF ps gs s 0)) := by rw [fsF_zero hgl]; rfl
  have hz2 : 0 + (N + 3) = N + 3 := by omega
  rw [hkv0, hz2]
  refine WC.loopF (fun i : Nat => [(134, iv i), (133, iv ((N + 3 : Nat) : Int)), (20, .slice (some ⟨bh, 0, none⟩) (N + 3) (N + 3)), (21, .slice A131 (N + 3) c131), (16, .slice (some ⟨q1, 0, none⟩) (N + 3) (N + 3)), (17, .slice (some ⟨q2, 0, none⟩) (N + 3) (N + 3)), (15, cellPtr (some ⟨b15, 0, none⟩) 0), (11, .slice A75 (N + 3) c75), (12, .slice Aw (N + 3) cw), (2, .slice G gs.length cG), (3, .slice D l.length cD)]) (fun i => [vec (some ⟨bh, 0, none⟩) (N + 3) (N + 3) 4 1 (bls (tab (N + 3) (htF ps gs s i))), vec A131 (N + 3) c131 41 8 (kvs (tab (N + 3) (fsF ps gs s i))), vec (some ⟨q1, 0, none⟩) (N + 3) (N + 3) UT 1 (u64s (tab (N + 3) (vsF gs s i))), vec (some ⟨q2, 0, none⟩) (N + 3) (N + 3) 4 1 (bls (tab (N + 3) (prF gs s i))), pt b15 LFT [.slice R (N + 3) r, .slice S (N + 3) z], vec R (N + 3) r UT 1 (u64s (tab (N + 3) fun q => q + 3)), vec S (N + 3) z UT 1 (u64s (tab (N + 3) fun q => sumN 7 q (q + 3) (nth ps q))), vec A75 (N + 3) c75 41 8 (kvs ps), vec Aw (N + 3) cw 41 8 (kvs qs)]) (fun i => i ≤ N + 3) (fun i => N + 3 - i) 0 (by repeat (first | exact trivial | refine ⟨rfl, ?_⟩)) (by rw [vsF_zero, prF_zero]; exact Imp.pick (by repeat (first | exact .head | apply Take.tail)) (Imp.pick (by repeat (first | exact .head | apply Take.tail)) (Imp.pick (by repeat (first | exact .head | apply Take.tail)) (Imp.pick (by repeat (first | exact .head | apply Take.tail)) (Imp.pick (by repeat (first | exact .head | apply Take.tail)) (Imp.pick (by repeat (first | exact .head | apply Take.tail)) (Imp.pick (by repeat (first | exact .head | apply Take.tail)) (Imp.pick (by repeat (first | exact .head | apply Take.tail)) (Imp.pick (by repeat (first | exact .head | apply Take.tail)) (Imp.nil _)))))))))) (by omega) ?_
  intro i U3 hi
  by_cases hlt : i < N + 3
  · have gH := bls_get (l := tab (N + 3) (htF ps gs s i)) (k := i) (by rw [tab_len]; exact hlt)
    rw [tab_nth hlt] at gH
    cases hmb : mkB s i with
    | false =>
      rw [htF_at0 i hmb] at gH
      refine WC.seq fun K hK => ?_
      refine WC.region rfl ?_
      refine wG rfl rfl (g_lt rfl (.mk rfl rfl) (.mk rfl rfl) (decide_eq_true (by omega))) ?_
      refine WL.nil (hK _ _ ?_); clear hK
      refine WC.seq fun K hK => ?_
      refine WC.cond_true (.mk rfl rfl) ?_
      refine WC.skip ?_
      (refine hK _ _ ?_; clear hK)
      refine WC.seq fun K hK => ?_
      refine WC.block ?_
      refine WC.seq fun K hK => ?_
      refine WC.region rfl ?_
      refine wMI rfl rfl rfl rfl rfl ?_
      refine wAI rfl rfl rfl rfl rfl ?_
      refine WL.nil (hK _ _ ?_); clear hK
      refine WC.seq fun K hK => ?_
      refine WC.seq fun K hK => ?_
      refine WC.region rfl ?_
      refine wMS rfl rfl rfl rfl rfl ?_
      refine wMI rfl rfl rfl rfl rfl ?_
      refine wG rfl rfl (g_indexAddr (sz := 1) rfl (.mk rfl rfl) (.mk rfl rfl) rfl rfl rfl (by omega) (fun _ _ => rfl)) ?_
      refine wG rfl rfl (g_load rfl (.mk rfl rfl) rfl (rd_vec (by first | ((repeat (first | exact .head _ | apply List.Mem.tail)); done) | fail) gH)) ?_
      refine wG rfl rfl (g_notF rfl (.mk rfl rfl)) ?_
      refine WL.nil (hK _ _ ?_); clear hK
      refine WC.cond_true (.mk rfl rfl) ?_
      refine WC.exit ?_
      (clear hK; refine hK _ _ ?_; clear hK)
      refine WC.region rfl ?_
      refine wG rfl rfl (g_add rfl (.mk rfl rfl) (.mk rfl rfl) (IntWalk.i64_in _ (by omega))) ?_
      refine wMI rfl rfl rfl rfl rfl ?_
      refine WL.nil ?_
      refine ⟨i + 1, (by repeat (first | exact trivial | refine ⟨rfl, ?_⟩)), ?_, by omega, by omega⟩
      rw [← htF_keep _ (.inl hmb), ← fsF_keep _ (.inl hmb), ← vsF_keep _ (.inl hmb), ← prF_keep _ (.inl hmb)]
      exact Imp.pick (by repeat (first | exact .head | apply Take.tail)) (Imp.pick (by repeat (first | exact .head | apply Take.tail)) (Imp.pick (by repeat (first | exact .head | apply Take.tail)) (Imp.pick (by repeat (first | exact .head | apply Take.tail)) (Imp.pick (by repeat (first | exact .head | apply Take.tail)) (Imp.pick (by repeat (first | exact .head | apply Take.tail)) (Imp.pick (by repeat (first | exact .head | apply Take.tail)) (Imp.pick (by repeat (first | exact .head | apply Take.tail)) (Imp.pick (by repeat (first | exact .head | apply Take.tail)) (Imp.nil _)))))))))
    | true =>
      rw [htF_at i hmb] at gH
      have gB0 : (kvs gs)[i * 8 + 0]? = some (bv ((nth gs i).at 0)) := flat_row blk8 (by omega) 0 _ (Blk.get _ (by omega))
      have gB1 : (kvs gs)[i * 8 + 1]? = some (bv ((nth gs i).at 1)) := flat_row blk8 (by omega) 1 _ (Blk.get _ (by omega))
      have hr0 : (((nth gs i).at 0).val : Int).tmod 3 = ((kdN gs i : Nat) : Int) := by unfold kdN; rw [Int.tmod_eq_emod_of_nonneg (by omega)]; omega
      have hr1 : (((nth gs i).at 1).val : Int).tmod 3 = ((ofN gs i : Nat) : Int) := by unfold ofN; rw [Int.tmod_eq_emod_of_nonneg (by omega)]; omega
      have hk3 := kdN_lt gs i
      have ho3 := ofN_lt gs i
      have hl1 : (u64s (tab (N + 3) (vsF gs s i))).length = N + 3 := by rw [u64s_len, tab_len]
      have hl2 : (bls (tab (N + 3) (prF gs s i))).length = N + 3 := by rw [bls_len, tab_len]
      have hl3 : (kvs (tab (N + 3) (fsF ps gs s i))).length = (N + 3) * 8 := by rw [kvs_len, tab_len]
      have hl4 : (bls (tab (N + 3) (htF ps gs s i))).length = N + 3 := by rw [bls_len, tab_len]
      have h3 : kdN gs i = 0 ∨ kdN gs i = 1 ∨ kdN gs i = 2 := by omega
      rcases h3 with h3 | h3 | h3
      · have hst : ∀ k, k = i * 1 → (bls (tab (N + 3) (prF gs s i))).set k (.bool false) = bls (tab (N + 3) (prF gs s (i + 1))) := fun k hk => by rw [bls_put (hk.trans (Nat.mul_one i)), prF_hit hlt hmb h3]
        have k1 := htF_keep (ps := ps) (N + 3) (.inr (by omega) : mkB s i = false ∨ kdN gs i ≠ 2)
        have k2 := fsF_keep (ps := ps) (N + 3) (.inr (by omega) : mkB s i = false ∨ kdN gs i ≠ 2)
        have k3 := vsF_keep (N + 3) (.inr (by omega) : mkB s i = false ∨ kdN gs i ≠ 1)
        rw [h3] at hr0
        refine WC.seq fun K hK => ?_
        refine WC.region rfl ?_
        refine wG rfl rfl (g_lt rfl (.mk rfl rfl) (.mk rfl rfl) (decide_eq_true (by omega))) ?_
        refine WL.nil (hK _ _ ?_); clear hK
        refine WC.seq fun K hK => ?_
        refine WC.cond_true (.mk rfl rfl) ?_
        refine WC.skip ?_
        (refine hK _ _ ?_; clear hK)
        refine WC.seq fun K hK => ?_
        refine WC.block ?_
        refine WC.seq fun K hK => ?_
        refine WC.region rfl ?_
        refine wMI rfl rfl rfl rfl rfl ?_
        refine wAI rfl rfl rfl rfl rfl ?_
        refine WL.nil (hK _ _ ?_); clear hK
        refine WC.seq fun K hK => ?_
        refine WC.seq fun K hK => ?_
        refine WC.region rfl ?_
        refine wMS rfl rfl rfl rfl rfl ?_
        refine wMI rfl rfl rfl rfl rfl ?_
        refine wG rfl rfl (g_indexAddr (sz := 1) rfl (.mk rfl rfl) (.mk rfl rfl) rfl rfl rfl (by omega) (fun _ _ => rfl)) ?_
        refine wG rfl rfl (g_load rfl (.mk rfl rfl) rfl (rd_vec (by first | ((repeat (first | exact .head _ | apply List.Mem.tail)); done) | fail) gH)) ?_
        refine wG rfl rfl (g_notT rfl (.mk rfl rfl)) ?_
        refine WL.nil (hK _ _ ?_); clear hK
        refine WC.cond_false (.mk rfl rfl) ?_
        refine WC.skip ?_
        (refine hK _ _ ?_; clear hK)
        refine WC.seq fun K hK => ?_
        refine WC.region rfl ?_
        refine wMS rfl rfl rfl rfl rfl ?_
        refine wMI rfl rfl rfl rfl rfl ?_
        refine wG rfl rfl (g_indexAddr (sz := 8) rfl (.mk rfl rfl) (.mk rfl rfl) rfl rfl rfl (by omega) (fun _ _ => sl_some hsg (by omega))) ?_
        refine wG rfl rfl (g_indexAddrA (sz := 1) rfl (.mk rfl rfl) (.mk rfl rfl) rfl rfl (show _ = ((0 : Nat) : Int) from rfl) (by omega) (fun _ _ => sl_some hsg (by omega))) ?_
        refine wG rfl rfl (g_load rfl (.mk rfl rfl) rfl (rd_sl hsg (ix gB0 (by omega)))) ?_
        refine wG rfl rfl (g_rem rfl (.mk rfl rfl) (.mk rfl rfl) (by omega) hr0) ?_
        refine WL.nil (hK _ _ ?_); clear hK
        refine WC.block ?_
        refine WC.seq fun K hK => ?_
        refine WC.region rfl ?_
        refine wG rfl rfl (g_eq rfl (.mk rfl rfl) (.mk rfl rfl) (decide_eq_true (by omega))) ?_
        refine wAB rfl rfl rfl rfl rfl ?_
        refine WL.nil (hK _ _ ?_); clear hK
        refine WC.cond_true (.mk rfl rfl) ?_
        refine WC.region rfl ?_
        refine wMS rfl rfl rfl rfl rfl ?_
        refine wMI rfl rfl rfl rfl rfl ?_
        refine wG rfl rfl (g_indexAddr (sz := 1) rfl (.mk rfl rfl) (.mk rfl rfl) rfl rfl rfl (by omega) (fun _ _ => rfl)) ?_
        refine WL.want rfl (WL1.storeV1 rfl rfl (.mk rfl rfl) (.mk (v := .bool _) rfl rfl) rfl rfl (by first | omega | (simp; done) | (simp; omega)) (.tail (.tail (.tail (.head)))) ?_)
        refine WL.nil (hK _ _ ?_); clear hK
        refine WC.region rfl ?_
        refine wG rfl rfl (g_add rfl (.mk rfl rfl) (.mk rfl rfl) (IntWalk.i64_in _ (by omega))) ?_
        refine wMI rfl rfl rfl rfl rfl ?_
        refine WL.nil ?_
        refine ⟨i + 1, (by repeat (first | exact trivial | refine ⟨rfl, ?_⟩)), ?_, by omega, by omega⟩
        rw [← k1, ← k2, ← k3, ← hst _ rfl]
        exact Imp.pick (by repeat (first | exact .head | apply Take.tail)) (Imp.pick (by repeat (first | exact .head | apply Take.tail)) (Imp.pick (by repeat (first | exact .head | apply Take.tail)) (Imp.pick (by repeat (first | exact .head | apply Take.tail)) (Imp.pick (by repeat (first | exact .head | apply Take.tail)) (Imp.pick (by repeat (first | exact .head | apply Take.tail)) (Imp.pick (by repeat (first | exact .head | apply Take.tail)) (Imp.pick (by repeat (first | exact .head | apply Take.tail)) (Imp.pick (by repeat (first | exact .head | apply Take.tail)) (Imp.nil _)))))))))
      · have hst : ∀ k, k = i * 1 → (u64s (tab (N + 3) (vsF gs s i))).set k (u64 (i + 3 - (1 + ofN gs i))) = u64s (tab (N + 3) (vsF gs s (i + 1))) := fun k hk => by rw [u64s_set hk, vsF_hit hlt hmb h3]
        have k1 := htF_keep (ps := ps) (N + 3) (.inr (by omega) : mkB s i = false ∨ kdN gs i ≠ 2)
        have k2 := fsF_keep (ps := ps) (N + 3) (.inr (by omega) : mkB s i = false ∨ kdN gs i ≠ 2)
        have k3 := prF_keep (N + 3) (.inr (by omega) : mkB s i = false ∨ kdN gs i ≠ 0)
        have gV := u64s_get (l := tab (N + 3) (vsF gs s i)) (k := i) (by rw [tab_len]; exact hlt)
        rw [tab_nth hlt, vsF_at] at gV
        rw [h3] at hr0
        have hcv : IntKind.u64.wrap ((ofN gs i : Nat) : Int) = ((ofN gs i : Nat) : Int) := u64n _ (by omega)
        have hsb2 : IntKind.u64.wrap (((i + 3 : Nat) : Int) - (1 + ((ofN gs i : Nat) : Int))) = ((i + 3 - (1 + ofN gs i) : Nat) : Int) := by
          rw [show ((i + 3 : Nat) : Int) - (1 + ((ofN gs i : Nat) : Int)) = ((i + 3 - (1 + ofN gs i) : Nat) : Int) from by omega]
          exact u64n _ (by omega)
        refine WC.seq fun K hK => ?_
        refine WC.region rfl ?_
        refine wG rfl rfl (g_lt rfl (.mk rfl rfl) (.mk rfl rfl) (decide_eq_true (by omega))) ?_
        refine WL.nil (hK _ _ ?_); clear hK
        refine WC.seq fun K hK => ?_
        refine WC.cond_true (.mk rfl rfl) ?_
        refine WC.skip ?_
        (refine hK _ _ ?_; clear hK)
        refine WC.seq fun K hK => ?_
        refine WC.block ?_
        refine WC.seq fun K hK => ?_
        refine WC.region rfl ?_
        refine wMI rfl rfl rfl rfl rfl ?_
        refine wAI rfl rfl rfl rfl rfl ?_
        refine WL.nil (hK _ _ ?_); clear hK
        refine WC.seq fun K hK => ?_
        refine WC.seq fun K hK => ?_
        refine WC.region rfl ?_
        refine wMS rfl rfl rfl rfl rfl ?_
        refine wMI rfl rfl rfl rfl rfl ?_
        refine wG rfl rfl (g_indexAddr (sz := 1) rfl (.mk rfl rfl) (.mk rfl rfl) rfl rfl rfl (by omega) (fun _ _ => rfl)) ?_
        refine wG rfl rfl (g_load rfl (.mk rfl rfl) rfl (rd_vec (by first | ((repeat (first | exact .head _ | apply List.Mem.tail)); done) | fail) gH)) ?_
        refine wG rfl rfl (g_notT rfl (.mk rfl rfl)) ?_
        refine WL.nil (hK _ _ ?_); clear hK
        refine WC.cond_false (.mk rfl rfl) ?_
        refine WC.skip ?_
        (refine hK _ _ ?_; clear hK)
        refine WC.seq fun K hK => ?_
        refine WC.region rfl ?_
        refine wMS rfl rfl rfl rfl rfl ?_
        refine wMI rfl rfl rfl rfl rfl ?_
        refine wG rfl rfl (g_indexAddr (sz := 8) rfl (.mk rfl rfl) (.mk rfl rfl) rfl rfl rfl (by omega) (fun _ _ => sl_some hsg (by omega))) ?_
        refine wG rfl rfl (g_indexAddrA (sz := 1) rfl (.mk rfl rfl) (.mk rfl rfl) rfl rfl (show _ = ((0 : Nat) : Int) from rfl) (by omega) (fun _ _ => sl_some hsg (by omega))) ?_
        refine wG rfl rfl (g_load rfl (.mk rfl rfl) rfl (rd_sl hsg (ix gB0 (by omega)))) ?_
        refine wG rfl rfl (g_rem rfl (.mk rfl rfl) (.mk rfl rfl) (by omega) hr0) ?_
        refine WL.nil (hK _ _ ?_); clear hK
        refine WC.block ?_
        refine WC.seq fun K hK => ?_
        refine WC.region rfl ?_
        refine wG rfl rfl (g_eq rfl (.mk rfl rfl) (.mk rfl rfl) (decide_eq_false (by omega))) ?_
        refine wAB rfl rfl rfl rfl rfl ?_
        refine WL.nil (hK _ _ ?_); clear hK
        refine WC.cond_false (.mk rfl rfl) ?_
        refine WC.seq fun K hK => ?_
        refine WC.region rfl ?_
        refine wG rfl rfl (g_eq rfl (.mk rfl rfl) (.mk rfl rfl) (decide_eq_true (by omega))) ?_
        refine wAB rfl rfl rfl rfl rfl ?_
        refine WL.nil (hK _ _ ?_); clear hK
        refine WC.cond_true (.mk rfl rfl) ?_
        refine WC.untilL [14] rfl (by kernel_rfl) ?_
        refine WB.takeP 0 rfl (by decide +kernel) (by decide +kernel) (by decide +kernel) (by decide +kernel) rfl rfl (.inr (Imp.sub (by first | ((repeat (first | exact List.nil_sublist _ | exact List.Sublist.refl _ | apply List.Sublist.cons_cons | apply List.Sublist.cons)); done) | fail))) (g_move rfl (.mk (v := .slice _ _ _) rfl rfl)) ?_
        refine WB.takeP 1 rfl (by decide +kernel) (by decide +kernel) (by decide +kernel) (by decide +kernel) rfl rfl (.inr (Imp.sub (by first | ((repeat (first | exact List.nil_sublist _ | exact List.Sublist.refl _ | apply List.Sublist.cons_cons | apply List.Sublist.cons)); done) | fail))) (g_move rfl (.mk (v := .int _ _) rfl rfl)) ?_
        refine WB.takeP 2 rfl (by decide +kernel) (by decide +kernel) (by decide +kernel) (by decide +kernel) rfl rfl (.inr (Imp.sub (by first | ((repeat (first | exact List.nil_sublist _ | exact List.Sublist.refl _ | apply List.Sublist.cons_cons | apply List.Sublist.cons)); done) | fail))) (g_indexAddr (sz := 1) rfl (.mk rfl rfl) (.mk rfl rfl) rfl rfl rfl (by omega) (fun _ _ => rfl)) ?_
        refine WB.take 3 rfl (by decide +kernel) (by decide +kernel) (by decide +kernel) (by decide +kernel) rfl rfl (Imp.sub (by first | ((repeat (first | exact List.nil_sublist _ | exact List.Sublist.refl _ | apply List.Sublist.cons_cons | apply List.Sublist.cons)); done) | fail)) (g_load rfl (.mk rfl rfl) rfl (rd_vec (by first | ((repeat (first | exact .head _ | apply List.Mem.tail)); done) | fail) gV)) ?_
        refine WB.takeP 4 rfl (by decide +kernel) (by decide +kernel) (by decide +kernel) (by decide +kernel) rfl rfl (.inr (Imp.sub (by first | ((repeat (first | exact List.nil_sublist _ | exact List.Sublist.refl _ | apply List.Sublist.cons_cons | apply List.Sublist.cons)); done) | fail))) (g_move rfl (.mk (v := .slice _ _ _) rfl rfl)) ?_
        refine WB.takeP 5 rfl (by decide +kernel) (by decide +kernel) (by decide +kernel) (by decide +kernel) rfl rfl (.inr (Imp.sub (by first | ((repeat (first | exact List.nil_sublist _ | exact List.Sublist.refl _ | apply List.Sublist.cons_cons | apply List.Sublist.cons)); done) | fail))) (g_move rfl (.mk (v := .int _ _) rfl rfl)) ?_
        refine WB.takeP 6 rfl (by decide +kernel) (by decide +kernel) (by decide +kernel) (by decide +kernel) rfl rfl (.inr (Imp.sub (by first | ((repeat (first | exact List.nil_sublist _ | exact List.Sublist.refl _ | apply List.Sublist.cons_cons | apply List.Sublist.cons)); done) | fail))) (g_indexAddr (sz := 8) rfl (.mk rfl rfl) (.mk rfl rfl) rfl rfl rfl (by omega) (fun _ _ => sl_some hsg (by omega))) ?_
        refine WB.takeP 7 rfl (by decide +kernel) (by decide +kernel) (by decide +kernel) (by decide +kernel) rfl rfl (.inr (Imp.sub (by first | ((repeat (first | exact List.nil_sublist _ | exact List.Sublist.refl _ | apply List.Sublist.cons_cons | apply List.Sublist.cons)); done) | fail))) (g_indexAddrA (sz := 1) rfl (.mk rfl rfl) (.mk rfl rfl) rfl rfl (show _ = ((1 : Nat) : Int) from rfl) (by omega) (fun _ _ => sl_some hsg (by omega))) ?_
        refine WB.take 8 rfl (by decide +kernel) (by decide +kernel) (by decide +kernel) (by decide +kernel) rfl rfl (Imp.sub (by first | ((repeat (first | exact List.nil_sublist _ | exact List.Sublist.refl _ | apply List.Sublist.cons_cons | apply List.Sublist.cons)); done) | fail)) (g_load rfl (.mk rfl rfl) rfl (rd_sl hsg (ix gB1 (by omega)))) ?_
        refine WB.takeP 9 rfl (by decide +kernel) (by decide +kernel) (by decide +kernel) (by decide +kernel) rfl rfl (.inr (Imp.sub (by first | ((repeat (first | exact List.nil_sublist _ | exact List.Sublist.refl _ | apply List.Sublist.cons_cons | apply List.Sublist.cons)); done) | fail))) (g_rem rfl (.mk rfl rfl) (.mk rfl rfl) (by omega) hr1) ?_
        refine WB.takeP 10 rfl (by decide +kernel) (by decide +kernel) (by decide +kernel) (by decide +kernel) rfl rfl (.inr (Imp.sub (by first | ((repeat (first | exact List.nil_sublist _ | exact List.Sublist.refl _ | apply List.Sublist.cons_cons | apply List.Sublist.cons)); done) | fail))) (g_conv rfl rfl rfl (.mk rfl rfl) hcv) ?_
        refine WB.takeP 11 rfl (by decide +kernel) (by decide +kernel) (by decide +kernel) (by decide +kernel) rfl rfl (.inr (Imp.sub (by first | ((repeat (first | exact List.nil_sublist _ | exact List.Sublist.refl _ | apply List.Sublist.cons_cons | apply List.Sublist.cons)); done) | fail))) (g_add rfl (.mk rfl rfl) (.mk rfl rfl) (IntWalk.u64_in _ (by omega))) ?_
        refine WB.takeP 12 rfl (by decide +kernel) (by decide +kernel) (by decide +kernel) (by decide +kernel) rfl rfl (.inr (Imp.sub (by first | ((repeat (first | exact List.nil_sublist _ | exact List.Sublist.refl _ | apply List.Sublist.cons_cons | apply List.Sublist.cons)); done) | fail))) (g_sub rfl (.mk rfl rfl) (.mk rfl rfl) hsb2) ?_
        refine WB.takeP 13 rfl (by decide +kernel) (by decide +kernel) (by decide +kernel) (by decide +kernel) rfl rfl (.inr (Imp.sub (by first | ((repeat (first | exact List.nil_sublist _ | exact List.Sublist.refl _ | apply List.Sublist.cons_cons | apply List.Sublist.cons)); done) | fail))) (g_indexAddr (sz := 1) rfl (.mk rfl rfl) (.mk rfl rfl) rfl rfl rfl (by omega) (fun _ _ => rfl)) ?_
        refine WB.one 14 (by decide +kernel) rfl rfl ?_
        refine WL1.storeV1 rfl rfl (.mk rfl rfl) (.mk (v := .int _ _) rfl rfl) rfl rfl (by first | omega | (simp; done) | (simp; omega)) (.tail (.tail (.head))) ?_
        refine WL.nil ?_
        refine ⟨.inl (by decide +kernel), ?_⟩
        refine WB.done (by decide +kernel) ?_
        (refine hK _ _ ?_; clear hK)
        refine WC.region rfl ?_
        refine wG rfl rfl (g_add rfl (.mk rfl rfl) (.mk rfl rfl) (IntWalk.i64_in _ (by omega))) ?_
        refine wMI rfl rfl rfl rfl rfl ?_
        refine WL.nil ?_
        refine ⟨i + 1, (by repeat (first | exact trivial | refine ⟨rfl, ?_⟩)), ?_, by omega, by omega⟩
        rw [← k1, ← k2, ← k3, ← hst _ rfl]
        exact Imp.pick (by repeat (first | exact .head | apply Take.tail)) (Imp.pick (by repeat (first | exact .head | apply Take.tail)) (Imp.pick (by repeat (first | exact .head | apply Take.tail)) (Imp.pick (by repeat (first | exact .head | apply Take.tail)) (Imp.pick (by repeat (first | exact .head | apply Take.tail)) (Imp.pick (by repeat (first | exact .head | apply Take.tail)) (Imp.pick (by repeat (first | exact .head | apply Take.tail)) (Imp.pick (by repeat (first | exact .head | apply Take.tail)) (Imp.pick (by repeat (first | exact .head | apply Take.tail)) (Imp.nil _)))))))))
      · have k1 := vsF_keep (N + 3) (.inr (by omega) : mkB s i = false ∨ kdN gs i ≠ 1)
        have k2 := prF_keep (N + 3) (.inr (by omega) : mkB s i = false ∨ kdN gs i ≠ 0)
        have gG : ∀ j u, (nth gs i).cells[j]? = some u → (kvs gs)[i * 8 + j]? = some u := fun j u h => flat_row blk8 (by omega) j u h
        have gP : ∀ j u, (nth ps i).cells[j]? = some u → (kvs ps)[i * 8 + j]? = some u := fun j u h => flat_row blk8 (by omega) j u h
        have hsp : ∀ k, k = i * 8 → spl (kvs (tab (N + 3) (fsF ps gs s i))) k (nth gs i).cells = kvs (tab (N + 3) (fsF ps gs s (i + 1))) := fun k hk => by
          rw [kvs_put (l := tab (N + 3) (fsF ps gs s i)) (k := i) (b := nth gs i) (by rw [tab_len]; exact hlt) hk rfl, fsF_hit hlt hmb h3]
        have hst := htF_hit (ps := ps) hlt hmb h3
        rw [h3] at hr0
        by_cases he : nth gs i = nth ps i
        · have E := blk_eq he
          rw [decide_eq_true he] at hst
          have hst : ∀ k, k = i * 1 → (bls (tab (N + 3) (htF ps gs s i))).set k (.bool (!true)) = bls (tab (N + 3) (htF ps gs s (i + 1))) := fun k hk => by rw [bls_put (hk.trans (Nat.mul_one i)), hst]
          generalize nth ps i = y at *
          generalize nth gs i = x at *
          refine WC.seq fun K hK => ?_
          refine WC.region rfl ?_
          refine wG rfl rfl (g_lt rfl (.mk rfl rfl) (.mk rfl rfl) (decide_eq_true (by omega))) ?_
          refine WL.nil (hK _ _ ?_); clear hK
          refine WC.seq fun K hK => ?_
          refine WC.cond_true (.mk rfl rfl) ?_
          refine WC.skip ?_
          (refine hK _ _ ?_; clear hK)
          refine WC.seq fun K hK => ?_
          refine WC.block ?_
          refine WC.seq fun K hK => ?_
          refine WC.region rfl ?_
          refine wMI rfl rfl rfl rfl rfl ?_
          refine wAI rfl rfl rfl rfl rfl ?_
          refine WL.nil (hK _ _ ?_); clear hK
          refine WC.seq fun K hK => ?_
          refine WC.seq fun K hK => ?_
          refine WC.region rfl ?_
          refine wMS rfl rfl rfl rfl rfl ?_
          refine wMI rfl rfl rfl rfl rfl ?_
          refine wG rfl rfl (g_indexAddr (sz := 1) rfl (.mk rfl rfl) (.mk rfl rfl) rfl rfl rfl (by omega) (fun _ _ => rfl)) ?_
          refine wG rfl rfl (g_load rfl (.mk rfl rfl) rfl (rd_vec (by first | ((repeat (first | exact .head _ | apply List.Mem.tail)); done) | fail) gH)) ?_
          refine wG rfl rfl (g_notT rfl (.mk rfl rfl)) ?_
          refine WL.nil (hK _ _ ?_); clear hK
          refine WC.cond_false (.mk rfl rfl) ?_
          refine WC.skip ?_
          (refine hK _ _ ?_; clear hK)
          refine WC.seq fun K hK => ?_
          refine WC.region rfl ?_
          refine wMS rfl rfl rfl rfl rfl ?_
          refine wMI rfl rfl rfl rfl rfl ?_
          refine wG rfl rfl (g_indexAddr (sz := 8) rfl (.mk rfl rfl) (.mk rfl rfl) rfl rfl rfl (by omega) (fun _ _ => sl_some hsg (by omega))) ?_
          refine wG rfl rfl (g_indexAddrA (sz := 1) rfl (.mk rfl rfl) (.mk rfl rfl) rfl rfl (show _ = ((0 : Nat) : Int) from rfl) (by omega) (fun _ _ => sl_some hsg (by omega))) ?_
          refine wG rfl rfl (g_load rfl (.mk rfl rfl) rfl (rd_sl hsg (ix gB0 (by omega)))) ?_
          refine wG rfl rfl (g_rem rfl (.mk rfl rfl) (.mk rfl rfl) (by omega) hr0) ?_
          refine WL.nil (hK _ _ ?_); clear hK
          refine WC.block ?_
          refine WC.seq fun K hK => ?_
          refine WC.region rfl ?_
          refine wG rfl rfl (g_eq rfl (.mk rfl rfl) (.mk rfl rfl) (decide_eq_false (by omega))) ?_
          refine wAB rfl rfl rfl rfl rfl ?_
          refine WL.nil (hK _ _ ?_); clear hK
          refine WC.cond_false (.mk rfl rfl) ?_
          refine WC.seq fun K hK => ?_
          refine WC.region rfl ?_
          refine wG rfl rfl (g_eq rfl (.mk rfl rfl) (.mk rfl rfl) (decide_eq_false (by omega))) ?_
          refine wAB rfl rfl rfl rfl rfl ?_
          refine WL.nil (hK _ _ ?_); clear hK
          refine WC.cond_false (.mk rfl rfl) ?_
          refine WC.seq fun K hK => ?_
          refine WC.region rfl ?_
          refine wMS rfl rfl rfl rfl rfl ?_
          refine wMI rfl rfl rfl rfl rfl ?_
          refine wMS rfl rfl rfl rfl rfl ?_
          refine wMI rfl rfl rfl rfl rfl ?_
          refine wG rfl rfl (g_indexAddr (sz := 8) rfl (.mk rfl rfl) (.mk rfl rfl) rfl rfl rfl (by omega) (fun _ _ => sl_some hsg (by omega))) ?_
          refine wG rfl rfl (g_loadA rfl (.mk rfl rfl) rfl (sz8 _) (rdr_sl (cs := x.cells) hsg (by omega) gG)) ?_
          refine wG rfl rfl (g_indexAddr (sz := 8) rfl (.mk rfl rfl) (.mk rfl rfl) rfl rfl rfl (by omega) (fun w hw => vec_some hw (.tail _ (.head _)) (by omega))) ?_
          refine WL.want rfl (WL1.storeVA rfl rfl (.mk rfl rfl) (.mk rfl rfl) (sz8 _) (Blk.one _) (by first | decide | omega | exact Nat.le_of_ble_eq_true rfl | (simp; done) | (simp; omega) | (rw [Blk.len]; omega)) (by first | omega | (rw [Blk.len]; omega) | (simp; done) | (simp; omega)) (.tail (.head)) ?_)
          refine WL.nil (hK _ _ ?_); clear hK
          refine WC.untilL [12] rfl (by kernel_rfl) ?_
          refine WB.takeP 0 rfl (by decide +kernel) (by decide +kernel) (by decide +kernel) (by decide +kernel) rfl rfl (.inr (Imp.sub (by first | ((repeat (first | exact List.nil_sublist _ | exact List.Sublist.refl _ | apply List.Sublist.cons_cons | apply List.Sublist.cons)); done) | fail))) (g_move rfl (.mk (v := .slice _ _ _) rfl rfl)) ?_
          refine WB.takeP 1 rfl (by decide +kernel) (by decide +kernel) (by decide +kernel) (by decide +kernel) rfl rfl (.inr (Imp.sub (by first | ((repeat (first | exact List.nil_sublist _ | exact List.Sublist.refl _ | apply List.Sublist.cons_cons | apply List.Sublist.cons)); done) | fail))) (g_move rfl (.mk (v := .int _ _) rfl rfl)) ?_
          refine WB.takeP 2 rfl (by decide +kernel) (by decide +kernel) (by decide +kernel) (by decide +kernel) rfl rfl (.inr (Imp.sub (by first | ((repeat (first | exact List.nil_sublist _ | exact List.Sublist.refl _ | apply List.Sublist.cons_cons | apply List.Sublist.cons)); done) | fail))) (g_move rfl (.mk (v := .slice _ _ _) rfl rfl)) ?_
          refine WB.takeP 3 rfl (by decide +kernel) (by decide +kernel) (by decide +kernel) (by decide +kernel) rfl rfl (.inr (Imp.sub (by first | ((repeat (first | exact List.nil_sublist _ | exact List.Sublist.refl _ | apply List.Sublist.cons_cons | apply List.Sublist.cons)); done) | fail))) (g_move rfl (.mk (v := .int _ _) rfl rfl)) ?_
          refine WB.takeP 4 rfl (by decide +kernel) (by decide +kernel) (by decide +kernel) (by decide +kernel) rfl rfl (.inr (Imp.sub (by first | ((repeat (first | exact List.nil_sublist _ | exact List.Sublist.refl _ | apply List.Sublist.cons_cons | apply List.Sublist.cons)); done) | fail))) (g_indexAddr (sz := 8) rfl (.mk rfl rfl) (.mk rfl rfl) rfl rfl rfl (by omega) (fun _ _ => sl_some hsg (by omega))) ?_
          refine WB.take 5 rfl (by decide +kernel) (by decide +kernel) (by decide +kernel) (by decide +kernel) rfl rfl (Imp.sub (by first | ((repeat (first | exact List.nil_sublist _ | exact List.Sublist.refl _ | apply List.Sublist.cons_cons | apply List.Sublist.cons)); done) | fail)) (g_loadA rfl (.mk rfl rfl) rfl (sz8 _) (rdr_sl (cs := x.cells) hsg (by omega) gG)) ?_
          refine WB.takeP 6 rfl (by decide +kernel) (by decide +kernel) (by decide +kernel) (by decide +kernel) rfl rfl (.inr (Imp.sub (by first | ((repeat (first | exact List.nil_sublist _ | exact List.Sublist.refl _ | apply List.Sublist.cons_cons | apply List.Sublist.cons)); done) | fail))) (g_move rfl (.mk (v := .slice _ _ _) rfl rfl)) ?_
          refine WB.takeP 7 rfl (by decide +kernel) (by decide +kernel) (by decide +kernel) (by decide +kernel) rfl rfl (.inr (Imp.sub (by first | ((repeat (first | exact List.nil_sublist _ | exact List.Sublist.refl _ | apply List.Sublist.cons_cons | apply List.Sublist.cons)); done) | fail))) (g_move rfl (.mk (v := .int _ _) rfl rfl)) ?_
          refine WB.take 8 rfl (by decide +kernel) (by decide +kernel) (by decide +kernel) (by decide +kernel) rfl rfl (Imp.sub (by first | ((repeat (first | exact List.nil_sublist _ | exact List.Sublist.refl _ | apply List.Sublist.cons_cons | apply List.Sublist.cons)); done) | fail)) (g_indexAddr (sz := 8) rfl (.mk rfl rfl) (.mk rfl rfl) rfl rfl rfl (by omega) (fun w hw => vec_some hw (.tail _ (.tail _ (.tail _ (.tail _ (.tail _ (.tail _ (.tail _ (.head _)))))))) (by omega))) ?_
          refine WB.take 9 rfl (by decide +kernel) (by decide +kernel) (by decide +kernel) (by decide +kernel) rfl rfl (Imp.sub (by first | ((repeat (first | exact List.nil_sublist _ | exact List.Sublist.refl _ | apply List.Sublist.cons_cons | apply List.Sublist.cons)); done) | fail)) (g_loadA rfl (.mk rfl rfl) rfl (sz8 _) (rdr_vec (cs := y.cells) (by first | ((repeat (first | exact .head _ | apply List.Mem.tail)); done) | fail) (by omega) gP)) ?_
          refine WB.takeP 10 rfl (by decide +kernel) (by decide +kernel) (by decide +kernel) (by decide +kernel) rfl rfl (.inr (Imp.sub (by first | ((repeat (first | exact List.nil_sublist _ | exact List.Sublist.refl _ | apply List.Sublist.cons_cons | apply List.Sublist.cons)); done) | fail))) (g_ane (by kernel_rfl) rfl (.mk rfl rfl) (.mk rfl rfl) E) ?_
          refine WB.takeP 11 rfl (by decide +kernel) (by decide +kernel) (by decide +kernel) (by decide +kernel) rfl rfl (.inr (Imp.sub (by first | ((repeat (first | exact List.nil_sublist _ | exact List.Sublist.refl _ | apply List.Sublist.cons_cons | apply List.Sublist.cons)); done) | fail))) (g_indexAddr (sz := 1) rfl (.mk rfl rfl) (.mk rfl rfl) rfl rfl rfl (by omega) (fun _ _ => rfl)) ?_
          refine WB.one 12 (by decide +kernel) rfl rfl ?_
          refine WL1.storeV1 rfl rfl (.mk rfl rfl) (.mk (v := .bool _) rfl rfl) rfl rfl (by first | omega | (simp; done) | (simp; omega)) (.head) ?_
          refine WL.nil ?_
          refine ⟨.inl (by decide +kernel), ?_⟩
          refine WB.done (by decide +kernel) ?_
          (refine hK _ _ ?_; clear hK)
          refine WC.region rfl ?_
          refine wG rfl rfl (g_add rfl (.mk rfl rfl) (.mk rfl rfl) (IntWalk.i64_in _ (by omega))) ?_
          refine wMI rfl rfl rfl rfl rfl ?_
          refine WL.nil ?_
          refine ⟨i + 1, (by repeat (first | exact trivial | refine ⟨rfl, ?_⟩)), ?_, by omega, by omega⟩
          rw [← k1, ← k2, ← hst _ rfl, ← hsp _ rfl]
          exact Imp.pick (by repeat (first | exact .head | apply Take.tail)) (Imp.pick (by repeat (first | exact .head | apply Take.tail)) (Imp.pick (by repeat (first | exact .head | apply Take.tail)) (Imp.pick (by repeat (first | exact .head | apply Take.tail)) (Imp.pick (by repeat (first | exact .head | apply Take.tail)) (Imp.pick (by repeat (first | exact .head | apply Take.tail)) (Imp.pick (by repeat (first | exact .head | apply Take.tail)) (Imp.pick (by repeat (first | exact .head | apply Take.tail)) (Imp.pick (by repeat (first | exact .head | apply Take.tail)) (Imp.nil _)))))))))
        · have E := blk_ne he
          rw [decide_eq_false he] at hst
          have hst : ∀ k, k = i * 1 → (bls (tab (N + 3) (htF ps gs s i))).set k (.bool (!false)) = bls (tab (N + 3) (htF ps gs s (i + 1))) := fun k hk => by rw [bls_put (hk.trans (Nat.mul_one i)), hst]
          generalize nth ps i = y at *
          generalize nth gs i = x at *
          refine WC.seq fun K hK => ?_
          refine WC.region rfl ?_
          refine wG rfl rfl (g_lt rfl (.mk rfl rfl) (.mk rfl rfl) (decide_eq_true (by omega))) ?_
          refine WL.nil (hK _ _ ?_); clear hK
          refine WC.seq fun K hK => ?_
          refine WC.cond_true (.mk rfl rfl) ?_
          refine WC.skip ?_
          (refine hK _ _ ?_; clear hK)
          refine WC.seq fun K hK => ?_
          refine WC.block ?_
          refine WC.seq fun K hK => ?_
          refine WC.region rfl ?_
          refine wMI rfl rfl rfl rfl rfl ?_
          refine wAI rfl rfl rfl rfl rfl ?_
          refine WL.nil (hK _ _ ?_); clear hK
          refine WC.seq fun K hK => ?_
          refine WC.seq fun K hK => ?_
          refine WC.region rfl ?_
          refine wMS rfl rfl rfl rfl rfl ?_
          refine wMI rfl rfl rfl rfl rfl ?_
          refine wG rfl rfl (g_indexAddr (sz := 1) rfl (.mk rfl rfl) (.mk rfl rfl) rfl rfl rfl (by omega) (fun _ _ => rfl)) ?_
          refine wG rfl rfl (g_load rfl (.mk rfl rfl) rfl (rd_vec (by first | ((repeat (first | exact .head _ | apply List.Mem.tail)); done) | fail) gH)) ?_
          refine wG rfl rfl (g_notT rfl (.mk rfl rfl)) ?_
          refine WL.nil (hK _ _ ?_); clear hK
          refine WC.cond_false (.mk rfl rfl) ?_
          refine WC.skip ?_
          (refine hK _ _ ?_; clear hK)
          refine WC.seq fun K hK => ?_
          refine WC.region rfl ?_
          refine wMS rfl rfl rfl rfl rfl ?_
          refine wMI rfl rfl rfl rfl rfl ?_
          refine wG rfl rfl (g_indexAddr (sz := 8) rfl (.mk rfl rfl) (.mk rfl rfl) rfl rfl rfl (by omega) (fun _ _ => sl_some hsg (by omega))) ?_
          refine wG rfl rfl (g_indexAddrA (sz := 1) rfl (.mk rfl rfl) (.mk rfl rfl) rfl rfl (show _ = ((0 : Nat) : Int) from rfl) (by omega) (fun _ _ => sl_some hsg (by omega))) ?_
          refine wG rfl rfl (g_load rfl (.mk rfl rfl) rfl (rd_sl hsg (ix gB0 (by omega)))) ?_
          refine wG rfl rfl (g_rem rfl (.mk rfl rfl) (.mk rfl rfl) (by omega) hr0) ?_
          refine WL.nil (hK _ _ ?_); clear hK
          refine WC.block ?_
          refine WC.seq fun K hK => ?_
          refine WC.region rfl ?_
          refine wG rfl rfl (g_eq rfl (.mk rfl rfl) (.mk rfl rfl) (decide_eq_false (by omega))) ?_
          refine wAB rfl rfl rfl rfl rfl ?_
          refine WL.nil (hK _ _ ?_); clear hK
          refine WC.cond_false (.mk rfl rfl) ?_
          refine WC.seq fun K hK => ?_
          refine WC.region rfl ?_
          refine wG rfl rfl (g_eq rfl (.mk rfl rfl) (.mk rfl rfl) (decide_eq_false (by omega))) ?_
          refine wAB rfl rfl rfl rfl rfl ?_
          refine WL.nil (hK _ _ ?_); clear hK
          refine WC.cond_false (.mk rfl rfl) ?_
          refine WC.seq fun K hK => ?_
          refine WC.region rfl ?_
          refine wMS rfl rfl rfl rfl rfl ?_
          refine wMI rfl rfl rfl rfl rfl ?_
          refine wMS rfl rfl rfl rfl rfl ?_
          refine wMI rfl rfl rfl rfl rfl ?_
          refine wG rfl rfl (g_indexAddr (sz := 8) rfl (.mk rfl rfl) (.mk rfl rfl) rfl rfl rfl (by omega) (fun _ _ => sl_some hsg (by omega))) ?_
          refine wG rfl rfl (g_loadA rfl (.mk rfl rfl) rfl (sz8 _) (rdr_sl (cs := x.cells) hsg (by omega) gG)) ?_
          refine wG rfl rfl (g_indexAddr (sz := 8) rfl (.mk rfl rfl) (.mk rfl rfl) rfl rfl rfl (by omega) (fun w hw => vec_some hw (.tail _ (.head _)) (by omega))) ?_
          refine WL.want rfl (WL1.storeVA rfl rfl (.mk rfl rfl) (.mk rfl rfl) (sz8 _) (Blk.one _) (by first | decide | omega | exact Nat.le_of_ble_eq_true rfl | (simp; done) | (simp; omega) | (rw [Blk.len]; omega)) (by first | omega | (rw [Blk.len]; omega) | (simp; done) | (simp; omega)) (.tail (.head)) ?_)
          refine WL.nil (hK _ _ ?_); clear hK
          refine WC.untilL [12] rfl (by kernel_rfl) ?_
          refine WB.takeP 0 rfl (by decide +kernel) (by decide +kernel) (by decide +kernel) (by decide +kernel) rfl rfl (.inr (Imp.sub (by first | ((repeat (first | exact List.nil_sublist _ | exact List.Sublist.refl _ | apply List.Sublist.cons_cons | apply List.Sublist.cons)); done) | fail))) (g_move rfl (.mk (v := .slice _ _ _) rfl rfl)) ?_
          refine WB.takeP 1 rfl (by decide +kernel) (by decide +kernel) (by decide +kernel) (by decide +kernel) rfl rfl (.inr (Imp.sub (by first | ((repeat (first | exact List.nil_sublist _ | exact List.Sublist.refl _ | apply List.Sublist.cons_cons | apply List.Sublist.cons)); done) | fail))) (g_move rfl (.mk (v := .int _ _) rfl rfl)) ?_
          refine WB.takeP 2 rfl (by decide +kernel) (by decide +kernel) (by decide +kernel) (by decide +kernel) rfl rfl (.inr (Imp.sub (by first | ((repeat (first | exact List.nil_sublist _ | exact List.Sublist.refl _ | apply List.Sublist.cons_cons | apply List.Sublist.cons)); done) | fail))) (g_move rfl (.mk (v := .slice _ _ _) rfl rfl)) ?_
          refine WB.takeP 3 rfl (by decide +kernel) (by decide +kernel) (by decide +kernel) (by decide +kernel) rfl rfl (.inr (Imp.sub (by first | ((repeat (first | exact List.nil_sublist _ | exact List.Sublist.refl _ | apply List.Sublist.cons_cons | apply List.Sublist.cons)); done) | fail))) (g_move rfl (.mk (v := .int _ _) rfl rfl)) ?_
          refine WB.takeP 4 rfl (by decide +kernel) (by decide +kernel) (by decide +kernel) (by decide +kernel) rfl rfl (.inr (Imp.sub (by first | ((repeat (first | exact List.nil_sublist _ | exact List.Sublist.refl _ | apply List.Sublist.cons_cons | apply List.Sublist.cons)); done) | fail))) (g_indexAddr (sz := 8) rfl (.mk rfl rfl) (.mk rfl rfl) rfl rfl rfl (by omega) (fun _ _ => sl_some hsg (by omega))) ?_
          refine WB.take 5 rfl (by decide +kernel) (by decide +kernel) (by decide +kernel) (by decide +kernel) rfl rfl (Imp.sub (by first | ((repeat (first | exact List.nil_sublist _ | exact List.Sublist.refl _ | apply List.Sublist.cons_cons | apply List.Sublist.cons)); done) | fail)) (g_loadA rfl (.mk rfl rfl) rfl (sz8 _) (rdr_sl (cs := x.cells) hsg (by omega) gG)) ?_
          refine WB.takeP 6 rfl (by decide +kernel) (by decide +kernel) (by decide +kernel) (by decide +kernel) rfl rfl (.inr (Imp.sub (by first | ((repeat (first | exact List.nil_sublist _ | exact List.Sublist.refl _ | apply List.Sublist.cons_cons | apply List.Sublist.cons)); done) | fail))) (g_move rfl (.mk (v := .slice _ _ _) rfl rfl)) ?_
          refine WB.takeP 7 rfl (by decide +kernel) (by decide +kernel) (by decide +kernel) (by decide +kernel) rfl rfl (.inr (Imp.sub (by first | ((repeat (first | exact List.nil_sublist _ | exact List.Sublist.refl _ | apply List.Sublist.cons_cons | apply List.Sublist.cons)); done) | fail))) (g_move rfl (.mk (v := .int _ _) rfl rfl)) ?_
          refine WB.take 8 rfl (by decide +kernel) (by decide +kernel) (by decide +kernel) (by decide +kernel) rfl rfl (Imp.sub (by first | ((repeat (first | exact List.nil_sublist _ | exact List.Sublist.refl _ | apply List.Sublist.cons_cons | apply List.Sublist.cons)); done) | fail)) (g_indexAddr (sz := 8) rfl (.mk rfl rfl) (.mk rfl rfl) rfl rfl rfl (by omega) (fun w hw => vec_some hw (.tail _ (.tail _ (.tail _ (.tail _ (.tail _ (.tail _ (.tail _ (.head _)))))))) (by omega))) ?_
          refine WB.take 9 rfl (by decide +kernel) (by decide +kernel) (by decide +kernel) (by decide +kernel) rfl rfl (Imp.sub (by first | ((repeat (first | exact List.nil_sublist _ | exact List.Sublist.refl _ | apply List.Sublist.cons_cons | apply List.Sublist.cons)); done) | fail)) (g_loadA rfl (.mk rfl rfl) rfl (sz8 _) (rdr_vec (cs := y.cells) (by first | ((repeat (first | exact .head _ | apply List.Mem.tail)); done) | fail) (by omega) gP)) ?_
          refine WB.takeP 10 rfl (by decide +kernel) (by decide +kernel) (by decide +kernel) (by decide +kernel) rfl rfl (.inr (Imp.sub (by first | ((repeat (first | exact List.nil_sublist _ | exact List.Sublist.refl _ | apply List.Sublist.cons_cons | apply List.Sublist.cons)); done) | fail))) (g_ane (by kernel_rfl) rfl (.mk rfl rfl) (.mk rfl rfl) E) ?_
          refine WB.takeP 11 rfl (by decide +kernel) (by decide +kernel) (by decide +kernel) (by decide +kernel) rfl rfl (.inr (Imp.sub (by first | ((repeat (first | exact List.nil_sublist _ | exact List.Sublist.refl _ | apply List.Sublist.cons_cons | apply List.Sublist.cons)); done) | fail))) (g_indexAddr (sz := 1) rfl (.mk rfl rfl) (.mk rfl rfl) rfl rfl rfl (by omega) (fun _ _ => rfl)) ?_
          refine WB.one 12 (by decide +kernel) rfl rfl ?_
          refine WL1.storeV1 rfl rfl (.mk rfl rfl) (.mk (v := .bool _) rfl rfl) rfl rfl (by first | omega | (simp; done) | (simp; omega)) (.head) ?_
          refine WL.nil ?_
          refine ⟨.inl (by decide +kernel), ?_⟩
          refine WB.done (by decide +kernel) ?_
          (refine hK _ _ ?_; clear hK)
          refine WC.region rfl ?_
          refine wG rfl rfl (g_add rfl (.mk rfl rfl) (.mk rfl rfl) (IntWalk.i64_in _ (by omega))) ?_
          refine wMI rfl rfl rfl rfl rfl ?_
          refine WL.nil ?_
          refine ⟨i + 1, (by repeat (first | exact trivial | refine ⟨rfl, ?_⟩)), ?_, by omega, by omega⟩
          rw [← k1, ← k2, ← hst _ rfl, ← hsp _ rfl]
          exact Imp.pick (by repeat (first | exact .head | apply Take.tail)) (Imp.pick (by repeat (first | exact .head | apply Take.tail)) (Imp.pick (by repeat (first | exact .head | apply Take.tail)) (Imp.pick (by repeat (first | exact .head | apply Take.tail)) (Imp.pick (by repeat (first | exact .head | apply Take.tail)) (Imp.pick (by repeat (first | exact .head | apply Take.tail)) (Imp.pick (by repeat (first | exact .head | apply Take.tail)) (Imp.pick (by repeat (first | exact .head | apply Take.tail)) (Imp.pick (by repeat (first | exact .head | apply Take.tail)) (Imp.nil _)))))))))
  obtain rfl : i = N + 3 := by omega
  have hbadn := fun w' hA hB hC hD hF => pbad_n (A := R) (B := S) (C := some ⟨q1, 0, none⟩) (D := A131) (F := some ⟨q2, 0, none⟩) (c := r) (d := z) (cc := N + 3) (cd := c131) (cf := N + 3) (m := N + 3) (g := 7) (vs := tab (N + 3) fun q => q + 3) (ss := tab (N + 3) fun q => sumN 7 q (q + 3) (nth ps q)) (vers := tab (N + 3) (vsF gs s (N + 3))) (dat := tab (N + 3) (fsF ps gs s (N + 3))) (pr := tab (N + 3) (prF gs s (N + 3))) w' hA hB hC hD hF (tab_len _ _) (tab_len _ _) (tab_len _ _) (tab_len _ _) (tab_len _ _) (by omega) (by omega)
  rw [hbad] at hbadn
  have hFl : (tab (N + 3) (fsF ps gs s (N + 3))).length = N + 3 := tab_len _ _
  have hBl : (tab (N + 3) (htF ps gs s (N + 3))).length = N + 3 := tab_len _ _
  clear hbad
  generalize tab (N + 3) (htF ps gs s (N + 3)) = B at *
  generalize tab (N + 3) (fsF ps gs s (N + 3)) = F at *
  generalize tab (N + 3) (vsF gs s (N + 3)) = Vs at *
  generalize tab (N + 3) (prF gs s (N + 3)) = Pr at *
  generalize (tab (N + 3) fun q => sumN 7 q (q + 3) (nth ps q)) = Ss at *
  generalize (tab (N + 3) fun q => q + 3) = V0 at *
  replace hbadn : ∀ w', Sl w' 1 (.slice R (N + 3) r) (N + 3) (u64s V0) → Sl w' 1 (.slice S (N + 3) z) (N + 3) (u64s Ss) → Sl w' 1 (.slice (some ⟨q1, 0, none⟩) (N + 3) (N + 3)) (N + 3) (u64s Vs) → Sl w' 8 (.slice A131 (N + 3) c131) (N + 3) (kvs F) → Sl w' 1 (.slice (some ⟨q2, 0, none⟩) (N + 3) (N + 3)) (N + 3) (bls Pr) → Calls Tryz.prog 11 #[.agg #[.slice R (N + 3) r, .slice S (N + 3) z], iv 7, .slice (some ⟨q1, 0, none⟩) (N + 3) (N + 3), .slice A131 (N + 3) c131, .slice (some ⟨q2, 0, none⟩) (N + 3) (N + 3)] w' fun e w2 => ∃ v M, e = .returned v ∧ H w' M w2 ∧ ∃ R r, v = .slice R (N + 3) r ∧ M = [vec R (N + 3) r 4 1 (bls B)] := hbadn
  have hcB : cnt B (N + 3) ≤ 3 := by rw [← mkN_cnt]; exact hcntH
  have hrd := fun w' A B' c d h h' => hrd w' B A B' c d hBl hcntH h h'
  obtain ⟨hf1, hf2⟩ := hfin B hcntH
  have hcomp := fun w' A B' D c d e O hO h1 h2 h4 => hcomp w' B A B' D c d e _ O hBl hcntH rfl hO (by omega) h1 h2 h4
  obtain ⟨RL, hRL⟩ : ∃ RL, RL = refL N (ints T) B := ⟨_, rfl⟩
  rw [← hRL] at hrd hf1 hf2 hcomp
  clear hRL hfin hmk hkv0 hk0 hgg
  refine WC.seq fun K hK => ?_
  refine WC.region rfl ?_
  refine wG rfl rfl (g_lt rfl (.mk rfl rfl) (.mk rfl rfl) (decide_eq_false (by omega))) ?_
  refine WL.nil (hK _ _ ?_); clear hK
  refine WC.seq fun K hK => ?_
  refine WC.cond_false (.mk rfl rfl) ?_
  refine WC.exit ?_
  (clear hK; refine hK _ _ ?_; clear hK)
  refine WC.seq fun K hK => ?_
  refine WC.region rfl ?_
  refine wG rfl rfl (g_loadA rfl (.mk rfl rfl) rfl rfl (rdr_pt (.tail _ (.tail _ (.tail _ (.tail _ (.head _))))) (fun j u h => by simpa using h))) ?_
  refine wMS rfl rfl rfl rfl rfl ?_
  refine wMS rfl rfl rfl rfl rfl ?_
  refine wMS rfl rfl rfl rfl rfl ?_
  (refine WL.want rfl (WL1.callN rfl rfl rfl (.cons (.mk (v := .agg _) rfl rfl) (.cons (.mk (v := .int _ _) rfl rfl) (.cons (.mk (v := .slice _ _ _) rfl rfl) (.cons (.mk (v := .slice _ _ _) rfl rfl) (.cons (.mk (v := .slice _ _ _) rfl rfl) .nil))))) (fun w hw => hbadn w (Sl.of_vec hw (by first | ((repeat (first | exact .head _ | apply List.Mem.tail)); done) | fail)) (Sl.of_vec hw (by first | ((repeat (first | exact .head _ | apply List.Mem.tail)); done) | fail)) (Sl.of_vec hw (by first | ((repeat (first | exact .head _ | apply List.Mem.tail)); done) | fail)) (Sl.of_vec hw (by first | ((repeat (first | exact .head _ | apply List.Mem.tail)); done) | fail)) (Sl.of_vec hw (by first | ((repeat (first | exact .head _ | apply List.Mem.tail)); done) | fail))) ?_); rintro _ _ ⟨Ab, cb, rfl, rfl⟩)
  refine wAS rfl rfl rfl rfl rfl ?_
  refine WL.nil (hK _ _ ?_); clear hK
  refine WC.seq fun K hK => ?_
  refine WC.seq fun K hK => ?_
  refine WC.region rfl ?_
  refine wMS rfl rfl rfl rfl rfl ?_
  refine wMS rfl rfl rfl rfl rfl ?_
  refine WL.want rfl (WL1.callP rfl rfl rfl (.cons (.mk (v := .slice _ _ _) rfl rfl) (.cons (.mk (v := .slice _ _ _) rfl rfl) .nil)) (fun w hw => bools_t w (Sl.of_vec hw (by first | ((repeat (first | exact .head _ | apply List.Mem.tail)); done) | fail)) (Sl.of_vec hw (by first | ((repeat (first | exact .head _ | apply List.Mem.tail)); done) | fail)) hBl rfl) ?_)
  refine wG rfl rfl (g_notT rfl (.mk rfl rfl)) ?_
  refine WL.nil (hK _ _ ?_); clear hK
  refine WC.cond_false (.mk rfl rfl) ?_
  refine WC.skip ?_
  (refine hK _ _ ?_; clear hK)
  refine WC.seq fun K hK => ?_
  refine WC.region rfl ?_
  refine wMS rfl rfl rfl rfl rfl ?_
  refine wMS rfl rfl rfl rfl rfl ?_
  (refine WL.want rfl (WL1.callN rfl rfl rfl (.cons (.mk (v := .slice _ _ _) rfl rfl) (.cons (.mk (v := .slice _ _ _) rfl rfl) .nil)) (fun w hw => decode_k (ps := F) (bs := B) (qs := ps) (n := N) (m := N + 3) rfl hN1 hN2 hFl hBl hcB hdec (Sl.of_vec hw (by first | ((repeat (first | exact .head _ | apply List.Mem.tail)); done) | fail)) (Sl.of_vec hw (by first | ((repeat (first | exact .head _ | apply List.Mem.tail)); done) | fail))) ?_); rintro _ _ ⟨Ao, co, rfl, rfl⟩)
  refine wG rfl rfl (g_move rfl (.mk (v := .tuple _) rfl rfl)) ?_
  refine wG rfl rfl (g_extract rfl (.mk rfl rfl) rfl) ?_
  refine wG rfl rfl (g_extract rfl (.mk rfl rfl) rfl) ?_
  refine wAS rfl rfl rfl rfl rfl ?_
  refine wAI rfl rfl rfl rfl rfl ?_
  refine WL.nil (hK _ _ ?_); clear hK
  refine WC.seq fun K hK => ?_
  refine WC.seq fun K hK => ?_
  refine WC.region rfl ?_
  refine wMI rfl rfl rfl rfl rfl ?_
  refine wG rfl rfl (g_ne rfl (.mk rfl rfl) (.mk rfl rfl) (decide_eq_false (by omega))) ?_
  refine wMB rfl rfl rfl rfl rfl ?_
  refine WL.wantG rfl rfl rfl rfl (WL1.give rfl (g_move rfl (.mk (v := .slice _ _ _) rfl rfl)) ?_)
  refine WL.wantG rfl rfl rfl rfl (WL1.give rfl (g_move rfl (.mk (v := .slice _ _ _) rfl rfl)) ?_)
  refine WL.wantG rfl rfl rfl rfl (WL1.callP rfl rfl rfl (.cons (.mk (v := .slice _ _ _) rfl rfl) (.cons (.mk (v := .slice _ _ _) rfl rfl) .nil)) (fun w hw => sameb_t (a := ps) (b := ps) (Sl.of_vec hw (by first | ((repeat (first | exact .head _ | apply List.Mem.tail)); done) | fail)) (Sl.of_vec hw (by first | ((repeat (first | exact .head _ | apply List.Mem.tail)); done) | fail)) hgl hgl rfl) ?_)
  refine WL.wantG rfl rfl rfl rfl (WL1.give rfl (g_notT rfl (.mk rfl rfl)) ?_)
  refine wG rfl rfl (g_pickF rfl (.mk rfl rfl) (.mk (v := .bool _) rfl rfl)) ?_
  refine WL.nil (hK _ _ ?_); clear hK
  refine WC.cond_false (.mk rfl rfl) ?_
  refine WC.skip ?_
  (refine hK _ _ ?_; clear hK)
  refine WC.seq fun K hK => ?_
  refine WC.region rfl ?_
  refine wMS rfl rfl rfl rfl rfl ?_
  refine wG rfl rfl (g_len rfl (.mk rfl rfl) rfl) ?_
  refine wMS rfl rfl rfl rfl rfl ?_
  refine wG rfl rfl (g_len rfl (.mk rfl rfl) rfl) ?_
  refine wMS rfl rfl rfl rfl rfl ?_
  (refine WL.want rfl (WL1.callN rfl rfl rfl (.cons (.mk (v := .int _ _) rfl rfl) (.cons (.mk (v := .slice _ _ _) rfl rfl) .nil)) (fun w hw => htc w hw.1) ?_); rintro _ _ ⟨At, ct, rfl, rfl⟩)
  refine wMS rfl rfl rfl rfl rfl ?_
  (refine WL.want rfl (WL1.callN rfl rfl rfl (.cons (.mk (v := .int _ _) rfl rfl) (.cons (.mk (v := .slice _ _ _) rfl rfl) (.cons (.mk (v := .slice _ _ _) rfl rfl) .nil))) (fun w hw => hrd w _ _ _ _ (Sl.of_vec hw (.head _)) (Sl.of_vec hw (by first | ((repeat (first | exact .head _ | apply List.Mem.tail)); done) | fail))) ?_); rintro _ _ ⟨Ar, cr, rfl, rfl⟩)
  refine wG rfl rfl (g_move rfl (.mk (v := .tuple _) rfl rfl)) ?_
  refine wG rfl rfl (g_extract rfl (.mk rfl rfl) rfl) ?_
  refine wG rfl rfl (g_extract rfl (.mk rfl rfl) rfl) ?_
  refine wAS rfl rfl rfl rfl rfl ?_
  refine wAI rfl rfl rfl rfl rfl ?_
  refine WL.nil (hK _ _ ?_); clear hK
  refine WC.seq fun K hK => ?_
  refine WC.region rfl ?_
  refine wAS rfl rfl rfl rfl rfl ?_
  refine WL.nil (hK _ _ ?_); clear hK
  refine WC.seq fun K hK => ?_
  refine WC.seq fun K hK => ?_
  refine WC.region rfl ?_
  refine wMS rfl rfl rfl rfl rfl ?_
  refine wG rfl rfl (g_len rfl (.mk rfl rfl) rfl) ?_
  refine wMI rfl rfl rfl rfl rfl ?_
  refine WL.nil (hK _ _ ?_); clear hK
  refine WC.block ?_
  refine WC.nilvec 41 8 ?_
  
  clear hrd htc hbadn hdec
  refine WC.loopF3 (fun (i : Nat) (F' : Option Addr) (fc : Nat) => [(225, iv i), (224, iv RL.length), (223, .slice Ar RL.length cr), (28, .slice F' i fc), (26, .slice Ar RL.length cr), (27, iv 0), (21, .slice A131 (N + 3) c131), (24, .slice Ao (N + 3) co), (11, .slice A75 (N + 3) c75), (12, .slice Aw (N + 3) cw), (3, .slice D l.length cD)]) (fun i F' fc => [vec F' i fc 41 8 (kvs ((RL.map (nth ps)).take i)), vec Ar RL.length cr 3 1 (ldv RL), vec A131 (N + 3) c131 41 8 (kvs F), vec Ao (N + 3) co 41 8 (kvs ps), vec A75 (N + 3) c75 41 8 (kvs ps), vec Aw (N + 3) cw 41 8 (kvs qs)]) (fun i _ _ => i ≤ RL.length) (fun i _ _ => RL.length - i) 0 none 0 (by repeat (first | exact trivial | refine ⟨rfl, ?_⟩)) (Imp.pick (A := vec none 0 0 41 8 []) (by repeat (first | exact .head | apply Take.tail)) (Imp.pick (by repeat (first | exact .head | apply Take.tail)) (Imp.pick (by repeat (first | exact .head | apply Take.tail)) (Imp.pick (by repeat (first | exact .head | apply Take.tail)) (Imp.pick (by repeat (first | exact .head | apply Take.tail)) (Imp.pick (by repeat (first | exact .head | apply Take.tail)) (Imp.nil _))))))) (by omega) ?_
  intro i F' fc U4 hi2
  have hOl : (RL.map (nth ps)).length = RL.length := List.length_map ..
  by_cases hlt2 : i < RL.length
  · have hgv := ldv_get (ld := RL) (k := i) hlt2
    obtain ⟨p1, p2⟩ := hf1 i hlt2
    have hOi : nth (RL.map (nth ps)) i = nth ps (nth RL i) := nth_map' _ hlt2
    have hfz := hfg (nth RL i) p1 p2
    have hnx : kvs ((RL.map (nth ps)).take i) ++ (nth ps (nth RL i)).cells = kvs ((RL.map (nth ps)).take (i + 1)) := by
      rw [take_snoc (by omega), hOi]; unfold kvs; rw [List.flatMap_append]; simp
    obtain ⟨x, hx⟩ : ∃ x, x = nth RL i := ⟨_, rfl⟩
    rw [← hx] at hgv p1 p2 hnx hfz
    have gp : ∀ t u, (nth ps x).cells[t]? = some u → (kvs F)[x * 8 + t]? = some u := fun t u h => by rw [← hfz] at h; exact flat_row blk8 (by omega) t u h
    obtain ⟨y, hy⟩ : ∃ y, y = nth ps x := ⟨_, rfl⟩
    rw [← hy] at hnx gp
    clear hy hx hOi hres hcomp hrok hf1 hfz
    refine WC.seq fun K hK => ?_
    refine WC.region rfl ?_
    refine wG rfl rfl (g_lt rfl (.mk rfl rfl) (.mk rfl rfl) (decide_eq_true (by omega))) ?_
    refine WL.nil (hK _ _ ?_); clear hK
    refine WC.seq fun K hK => ?_
    refine WC.cond_true (.mk rfl rfl) ?_
    refine WC.skip ?_
    (refine hK _ _ ?_; clear hK)
    refine WC.seq fun K hK => ?_
    refine WC.block ?_
    refine WC.seq fun K hK => ?_
    refine WC.region rfl ?_
    refine wG rfl rfl (g_indexAddr (sz := 1) rfl (.mk rfl rfl) (.mk rfl rfl) rfl rfl rfl (by omega) (fun w hw => vec_some hw (.tail _ (.head _)) (by omega))) ?_
    refine wG rfl rfl (g_load rfl (.mk rfl rfl) rfl (rd_vec (by first | ((repeat (first | exact .head _ | apply List.Mem.tail)); done) | fail) hgv)) ?_
    refine wAI rfl rfl rfl rfl rfl ?_
    refine WL.nil (hK _ _ ?_); clear hK
    refine WC.region rfl ?_
    refine wMS rfl rfl rfl rfl rfl ?_
    refine wMS rfl rfl rfl rfl rfl ?_
    refine wMI rfl rfl rfl rfl rfl ?_
    refine wG rfl rfl (g_indexAddr (sz := 8) rfl (.mk rfl rfl) (.mk rfl rfl) rfl rfl rfl (by omega) (fun w hw => vec_some hw (.tail _ (.tail _ (.head _))) (by omega))) ?_
    refine wG rfl rfl (g_loadA rfl (.mk rfl rfl) rfl (sz8 _) (rdr_vec (cs := y.cells) (by first | ((repeat (first | exact .head _ | apply List.Mem.tail)); done) | fail) (by omega) gp)) ?_
    refine WL.want rfl (WL1.lit elK rfl rfl rfl (.cons (.mk (v := .agg _) rfl rfl) .nil) rfl (by intro v hv; rw [List.mem_singleton] at hv; subst hv; show (Blk.cells _).toArray.size = 8; rw [List.size_toArray, Blk.len]) (List.append_nil _) rfl (fun b234 => ?_))
    refine WL.want rfl (WL1.append elK rfl rfl (.mk rfl rfl) (.mk rfl rfl) (.tail (.head)) (fun w hw => Sl.of_vec hw (.head _)) y.one (by unfold maxLen; omega) (by omega) (fun A235 c235 => ?_))
    refine wAS rfl rfl rfl rfl rfl ?_
    refine WL.nil (hK _ _ ?_); clear hK
    refine WC.region rfl ?_
    refine wG rfl rfl (g_add rfl (.mk rfl rfl) (.mk rfl rfl) (IntWalk.i64_in _ (by omega))) ?_
    refine wMI rfl rfl rfl rfl rfl ?_
    refine WL.nil ?_
    exact ⟨i + 1, A235, c235, (by repeat (first | exact trivial | refine ⟨rfl, ?_⟩)), by rw [← hnx]; exact Imp.pick (by repeat (first | exact .head | apply Take.tail)) (Imp.pick (by repeat (first | exact .head | apply Take.tail)) (Imp.pick (by repeat (first | exact .head | apply Take.tail)) (Imp.pick (by repeat (first | exact .head | apply Take.tail)) (Imp.pick (by repeat (first | exact .head | apply Take.tail)) (Imp.pick (by repeat (first | exact .head | apply Take.tail)) (Imp.nil _)))))), by omega, by omega⟩
  obtain rfl : i = RL.length := by omega
  rw [List.take_of_length_le (by omega)]
  obtain ⟨O, hO⟩ : ∃ O, O = RL.map (nth ps) := ⟨_, rfl⟩
  rw [← hO]
  have hcomp := fun w' A B' D c d e => hcomp w' A B' D c d e O hO
  clear hf1 hfg hO
  refine WC.seq fun K hK => ?_
  refine WC.region rfl ?_
  refine wG rfl rfl (g_lt rfl (.mk rfl rfl) (.mk rfl rfl) (decide_eq_false (by omega))) ?_
  refine WL.nil (hK _ _ ?_); clear hK
  refine WC.seq fun K hK => ?_
  refine WC.cond_false (.mk rfl rfl) ?_
  refine WC.exit ?_
  (clear hK; refine hK _ _ ?_; clear hK)
  refine WC.seq fun K hK => ?_
  refine WC.region rfl ?_
  refine wAS rfl rfl rfl rfl rfl ?_
  refine WL.nil (hK _ _ ?_); clear hK
  refine WC.seq fun K hK => ?_
  refine WC.seq fun K hK => ?_
  refine WC.region rfl ?_
  refine wMS rfl rfl rfl rfl rfl ?_
  refine wG rfl rfl (g_len rfl (.mk rfl rfl) rfl) ?_
  refine wMI rfl rfl rfl rfl rfl ?_
  refine WL.nil (hK _ _ ?_); clear hK
  refine WC.block ?_
  refine WC.nilvec 55 9 ?_
  
  refine WC.loopF3 (fun (i : Nat) (F2 : Option Addr) (fc2 : Nat) => [(239, iv i), (238, iv l.length), (237, .slice D l.length cD), (31, .slice F2 i fc2), (28, .slice F' RL.length fc), (26, .slice Ar RL.length cr), (27, iv 0), (24, .slice Ao (N + 3) co), (11, .slice A75 (N + 3) c75), (12, .slice Aw (N + 3) cw)]) (fun i F2 fc2 => [vec F2 i fc2 55 9 (cvs (l.take i)), vec F' RL.length fc 41 8 (kvs O), vec Ar RL.length cr 3 1 (ldv RL), vec Ao (N + 3) co 41 8 (kvs ps), vec Aw (N + 3) cw 41 8 (kvs qs)]) (fun i _ _ => i ≤ l.length) (fun i _ _ => l.length - i) 0 none 0 (by repeat (first | exact trivial | refine ⟨rfl, ?_⟩)) (Imp.pick (A := vec none 0 0 55 9 []) (by repeat (first | exact .head | apply Take.tail)) (Imp.pick (by repeat (first | exact .head | apply Take.tail)) (Imp.pick (by repeat (first | exact .head | apply Take.tail)) (Imp.pick (by repeat (first | exact .head | apply Take.tail)) (Imp.pick (by repeat (first | exact .head | apply Take.tail)) (Imp.nil _)))))) (by omega) ?_
  intro i F2 fc2 U5 hi3
  by_cases hlt3 : i < l.length
  · have hgd := chg_row (l := l) (k := i) hlt3
    have hnx : cvs (l.take i) ++ (nth l i).cells = cvs (l.take (i + 1)) := by
      have : l.take (i + 1) = l.take i ++ [nth l i] := by rw [List.take_add_one, nth_get hlt3]; rfl
      rw [this]; unfold cvs; rw [List.flatMap_append]; simp
    obtain ⟨x, hx⟩ : ∃ x, x = nth l i := ⟨_, rfl⟩
    rw [← hx] at hgd hnx
    have gx : ∀ j u, x.cells[j]? = some u → x.cells[0 + (0 + j)]? = some u := fun j u h => by rw [Nat.zero_add, Nat.zero_add]; exact h
    clear hx hcomp hres hrok
    refine WC.seq fun K hK => ?_
    refine WC.region rfl ?_
    refine wG rfl rfl (g_lt rfl (.mk rfl rfl) (.mk rfl rfl) (decide_eq_true (by omega))) ?_
    refine WL.nil (hK _ _ ?_); clear hK
    refine WC.seq fun K hK => ?_
    refine WC.cond_true (.mk rfl rfl) ?_
    refine WC.skip ?_
    (refine hK _ _ ?_; clear hK)
    refine WC.seq fun K hK => ?_
    refine WC.block ?_
    refine WC.seq fun K hK => ?_
    refine WC.region rfl ?_
    refine wG rfl rfl (g_indexAddr (sz := 9) rfl (.mk rfl rfl) (.mk rfl rfl) rfl rfl rfl (by omega) (fun _ _ => sl_some hsb (by omega))) ?_
    refine wG rfl rfl (g_loadA rfl (.mk rfl rfl) rfl (sz9r _) (rdr_sl hsb (by omega) hgd)) ?_
    refine WL.want rfl (WL1.alloc rfl rfl rfl rfl (fun b33 => ?_))
    refine WL.want rfl (WL1.storeAll rfl rfl (.mk rfl rfl) (.mk rfl rfl) (sz9r _) (Chg.one _) (by rw [Chg.len]; rfl) .head ?_)
    refine WL.nil (hK _ _ ?_); clear hK
    refine WC.region rfl ?_
    refine wMS rfl rfl rfl rfl rfl ?_
    refine wG rfl rfl (g_loadA rfl (.mk rfl rfl) rfl (sz9r _) (rdr_pt (cs := x.cells) (by first | ((repeat (first | exact .head _ | apply List.Mem.tail)); done) | fail) gx)) ?_
    refine WL.want rfl (WL1.lit elC rfl rfl rfl (.cons (.mk (v := .agg _) rfl rfl) .nil) rfl (by intro v hv; rw [List.mem_singleton] at hv; subst hv; show (Chg.cells _).toArray.size = 9; rw [List.size_toArray, Chg.len]) (List.append_nil _) rfl (fun b245 => ?_))
    refine WL.want rfl (WL1.append elC rfl rfl (.mk rfl rfl) (.mk rfl rfl) (.tail (.tail (.head))) (fun w hw => Sl.of_vec hw (.head _)) (Chg.one _) (by unfold maxLen; omega) (by omega) (fun A246 c246 => ?_))
    refine wAS rfl rfl rfl rfl rfl ?_
    refine WL.nil (hK _ _ ?_); clear hK
    refine WC.region rfl ?_
    refine wG rfl rfl (g_add rfl (.mk rfl rfl) (.mk rfl rfl) (IntWalk.i64_in _ (by omega))) ?_
    refine wMI rfl rfl rfl rfl rfl ?_
    refine WL.nil ?_
    exact ⟨i + 1, A246, c246, (by repeat (first | exact trivial | refine ⟨rfl, ?_⟩)), by rw [← hnx]; exact Imp.pick (by repeat (first | exact .head | apply Take.tail)) (Imp.pick (by repeat (first | exact .head | apply Take.tail)) (Imp.pick (by repeat (first | exact .head | apply Take.tail)) (Imp.pick (by repeat (first | exact .head | apply Take.tail)) (Imp.pick (by repeat (first | exact .head | apply Take.tail)) (Imp.nil _))))), by omega, by omega⟩
  obtain rfl : i = l.length := by omega
  rw [List.take_length]
  have hhd : kvs ps = kvs (datP ps rs 0) := rfl
  refine WC.seq fun K hK => ?_
  refine WC.region rfl ?_
  refine wG rfl rfl (g_lt rfl (.mk rfl rfl) (.mk rfl rfl) (decide_eq_false (by omega))) ?_
  refine WL.nil (hK _ _ ?_); clear hK
  refine WC.seq fun K hK => ?_
  refine WC.cond_false (.mk rfl rfl) ?_
  refine WC.exit ?_
  (clear hK; refine hK _ _ ?_; clear hK)
  refine WC.seq fun K hK => ?_
  refine WC.region rfl ?_
  refine wMS rfl rfl rfl rfl rfl ?_
  refine wG rfl rfl (g_len rfl (.mk rfl rfl) rfl) ?_
  refine wMS rfl rfl rfl rfl rfl ?_
  refine wMS rfl rfl rfl rfl rfl ?_
  refine wMS rfl rfl rfl rfl rfl ?_
  (refine WL.want rfl (WL1.callN rfl rfl rfl (.cons (.mk (v := .int _ _) rfl rfl) (.cons (.mk (v := .slice _ _ _) rfl rfl) (.cons (.mk (v := .slice _ _ _) rfl rfl) (.cons (.mk (v := .slice _ _ _) rfl rfl) .nil)))) (fun w hw => hcomp w _ _ _ _ _ _ (Sl.of_vec hw (by first | ((repeat (first | exact .head _ | apply List.Mem.tail)); done) | fail)) (Sl.of_vec hw (by first | ((repeat (first | exact .head _ | apply List.Mem.tail)); done) | fail)) (Sl.of_vec hw (.head _))) ?_); rintro _ _ ⟨Ag, cg, rfl, rfl⟩)
  refine wG rfl rfl (g_move rfl (.mk (v := .tuple _) rfl rfl)) ?_
  refine wG rfl rfl (g_extract rfl (.mk rfl rfl) rfl) ?_
  refine wG rfl rfl (g_extract rfl (.mk rfl rfl) rfl) ?_
  refine wAS rfl rfl rfl rfl rfl ?_
  refine wAI rfl rfl rfl rfl rfl ?_
  refine WL.nil (hK _ _ ?_); clear hK
  refine WC.seq fun K hK => ?_
  refine WC.seq fun K hK => ?_
  refine WC.region rfl ?_
  refine wMI rfl rfl rfl rfl rfl ?_
  refine wG rfl rfl (g_ne rfl (.mk rfl rfl) (.mk rfl rfl) (decide_eq_false (by omega))) ?_
  refine wMB rfl rfl rfl rfl rfl ?_
  refine WL.wantG rfl rfl rfl rfl (WL1.give rfl (g_move rfl (.mk (v := .int _ _) rfl rfl)) ?_)
  refine WL.wantG rfl rfl rfl rfl (WL1.give rfl (g_ne rfl (.mk rfl rfl) (.mk rfl rfl) (decide_eq_false (by omega))) ?_)
  refine wG rfl rfl (g_pickF rfl (.mk rfl rfl) (.mk (v := .bool _) rfl rfl)) ?_
  refine WL.nil (hK _ _ ?_); clear hK
  refine WC.cond_false (.mk rfl rfl) ?_
  refine WC.skip ?_
  (refine hK _ _ ?_; clear hK)
  refine WC.seq fun K hK => ?_
  refine WC.seq fun K hK => ?_
  refine WC.region rfl ?_
  refine wMS rfl rfl rfl rfl rfl ?_
  refine wG rfl rfl (g_len rfl (.mk rfl rfl) rfl) ?_
  refine wMI rfl rfl rfl rfl rfl ?_
  refine WL.nil (hK _ _ ?_); clear hK
  refine WC.block ?_
  rw [hhd]
  clear hcomp
  refine WC.loopF (fun i : Nat => [(265, iv i), (264, iv ((T.length + 3 : Nat) : Int)), (263, .slice Ag (T.length + 3) cg), (24, .slice Ao (N + 3) co), (12, .slice Aw (N + 3) cw)]) (fun i => [vec Ao (N + 3) co 41 8 (kvs (datP ps rs i)), vec Ag (T.length + 3) cg 55 9 (cvs rs), vec Aw (N + 3) cw 41 8 (kvs qs)]) (fun i => i ≤ T.length + 3) (fun i => T.length + 3 - i) 0 (by repeat (first | exact trivial | refine ⟨rfl, ?_⟩)) (Imp.pick (by repeat (first | exact .head | apply Take.tail)) (Imp.pick (by repeat (first | exact .head | apply Take.tail)) (Imp.pick (by repeat (first | exact .head | apply Take.tail)) (Imp.nil _)))) (by omega) ?_
  intro i U6 hi4
  have hdl := datP_len ps rs i
  rw [hgl] at hdl
  have hkl : (kvs (datP ps rs i)).length = (N + 3) * 8 := by rw [kvs_len, hdl]
  by_cases hlt4 : i < T.length + 3
  · have hgd := chg_row (l := rs) (k := i) (by omega)
    obtain ⟨x', hz', hzn⟩ := hrok i hlt4
    have hdn : datP ps rs (i + 1) = (datP ps rs i).set (nth rs i).s.toNat (nth rs i).b := rfl
    obtain ⟨x, hx⟩ : ∃ x, x = nth rs i := ⟨_, rfl⟩
    rw [← hx] at hgd hz' hdn
    have g0 : x.cells[0 + (0 + 0)]? = some (iv x') := by rw [← hz']; rfl
    have gb : ∀ j u, x.b.cells[j]? = some u → x.cells[0 + (0 + 1 + j)]? = some u := fun j u h => by rw [show 0 + (0 + 1 + j) = 1 + j from by omega]; exact x.atb j u h
    have hz2 : x.s.toNat = x' := by omega
    rw [hz2] at hdn
    have hsp : spl (kvs (datP ps rs i)) (x' * 8) x.b.cells = kvs (datP ps rs (i + 1)) := by rw [kvs_put (l := datP ps rs i) (k := x') (b := x.b) (by omega) rfl rfl, hdn]
    have hx8 := Blk.len x.b
    clear hx hdn hres hrok
    refine WC.seq fun K hK => ?_
    refine WC.region rfl ?_
    refine wG rfl rfl (g_lt rfl (.mk rfl rfl) (.mk rfl rfl) (decide_eq_true (by omega))) ?_
    refine WL.nil (hK _ _ ?_); clear hK
    refine WC.seq fun K hK => ?_
    refine WC.cond_true (.mk rfl rfl) ?_
    refine WC.skip ?_
    (refine hK _ _ ?_; clear hK)
    refine WC.seq fun K hK => ?_
    refine WC.block ?_
    refine WC.seq fun K hK => ?_
    refine WC.region rfl ?_
    refine wG rfl rfl (g_indexAddr (sz := 9) rfl (.mk rfl rfl) (.mk rfl rfl) rfl rfl rfl (by omega) (fun w hw => vec_some hw (.tail _ (.head _)) (by omega))) ?_
    refine wG rfl rfl (g_loadA rfl (.mk rfl rfl) rfl (sz9 _) (rdr_vec (by first | ((repeat (first | exact .head _ | apply List.Mem.tail)); done) | fail) (by omega) hgd)) ?_
    refine WL.want rfl (WL1.alloc rfl rfl rfl rfl (fun b37 => ?_))
    refine WL.want rfl (WL1.storeAll rfl rfl (.mk rfl rfl) (.mk rfl rfl) (sz9 _) (Chg.one _) (by rw [Chg.len]; rfl) .head ?_)
    refine WL.nil (hK _ _ ?_); clear hK
    refine WC.seq fun K hK => ?_
    refine WC.seq fun K hK => ?_
    refine WC.region rfl ?_
    refine wG rfl rfl (g_fieldAddr (off := 0) rfl (.mk rfl rfl) rfl (fun _ _ => rfl)) ?_
    refine wG rfl rfl (g_load rfl (.mk rfl rfl) rfl (rd_pt (by first | ((repeat (first | exact .head _ | apply List.Mem.tail)); done) | fail) g0)) ?_
    refine wG rfl rfl (g_lt rfl (.mk rfl rfl) (.mk rfl rfl) (decide_eq_false (by omega))) ?_
    refine wMB rfl rfl rfl rfl rfl ?_
    refine WL.wantG rfl rfl rfl rfl (WL1.give rfl (g_fieldAddr (off := 0) rfl (.mk rfl rfl) rfl (fun _ _ => rfl)) ?_)
    refine WL.wantG rfl rfl rfl rfl (WL1.give rfl (g_load rfl (.mk rfl rfl) rfl (rd_pt (by first | ((repeat (first | exact .head _ | apply List.Mem.tail)); done) | fail) g0)) ?_)
    refine WL.wantG rfl rfl rfl rfl (WL1.give rfl (g_move rfl (.mk (v := .slice _ _ _) rfl rfl)) ?_)
    refine WL.wantG rfl rfl rfl rfl (WL1.give rfl (g_len rfl (.mk rfl rfl) rfl) ?_)
    refine WL.wantG rfl rfl rfl rfl (WL1.give rfl (g_ge rfl (.mk rfl rfl) (.mk rfl rfl) (decide_eq_false (by omega))) ?_)
    refine wG rfl rfl (g_pickF rfl (.mk rfl rfl) (.mk (v := .bool _) rfl rfl)) ?_
    refine WL.nil (hK _ _ ?_); clear hK
    refine WC.cond_false (.mk rfl rfl) ?_
    refine WC.skip ?_
    (refine hK _ _ ?_; clear hK)
    refine WC.region rfl ?_
    refine wMS rfl rfl rfl rfl rfl ?_
    refine wG rfl rfl (g_fieldAddr (off := 0) rfl (.mk rfl rfl) rfl (fun _ _ => rfl)) ?_
    refine wG rfl rfl (g_load rfl (.mk rfl rfl) rfl (rd_pt (by first | ((repeat (first | exact .head _ | apply List.Mem.tail)); done) | fail) g0)) ?_
    refine wG rfl rfl (g_fieldAddr (off := 1) rfl (.mk rfl rfl) rfl (fun _ _ => rfl)) ?_
    refine wG rfl rfl (g_loadA rfl (.mk rfl rfl) rfl (sz8 _) (rdr_pt (cs := x.b.cells) (by first | ((repeat (first | exact .head _ | apply List.Mem.tail)); done) | fail) gb)) ?_
    refine wG rfl rfl (g_indexAddr (sz := 8) rfl (.mk rfl rfl) (.mk rfl rfl) rfl rfl rfl (by omega) (fun w hw => vec_some hw (.tail _ (.head _)) (by omega))) ?_
    refine WL.want rfl (WL1.storeVA rfl rfl (.mk rfl rfl) (.mk rfl rfl) (sz8 _) (Blk.one _) (by first | decide | omega | exact Nat.le_of_ble_eq_true rfl | (simp; done) | (simp; omega) | (rw [Blk.len]; omega)) (by first | omega | (rw [Blk.len]; omega) | (simp; done) | (simp; omega)) (.tail (.head)) ?_)
    refine WL.nil (hK _ _ ?_); clear hK
    refine WC.region rfl ?_
    refine wG rfl rfl (g_add rfl (.mk rfl rfl) (.mk rfl rfl) (IntWalk.i64_in _ (by omega))) ?_
    refine wMI rfl rfl rfl rfl rfl ?_
    refine WL.nil ?_
    exact ⟨i + 1, (by repeat (first | exact trivial | refine ⟨rfl, ?_⟩)), by rw [← hsp]; exact Imp.pick (by repeat (first | exact .head | apply Take.tail)) (Imp.pick (by repeat (first | exact .head | apply Take.tail)) (Imp.pick (by repeat (first | exact .head | apply Take.tail)) (Imp.nil _))), by omega, by omega⟩
  · obtain rfl : i = T.length + 3 := by omega
    rw [hres]
    refine WC.seq fun K hK => ?_
    refine WC.region rfl ?_
    refine wG rfl rfl (g_lt rfl (.mk rfl rfl) (.mk rfl rfl) (decide_eq_false (by omega))) ?_
    refine WL.nil (hK _ _ ?_); clear hK
    refine WC.seq fun K hK => ?_
    refine WC.cond_false (.mk rfl rfl) ?_
    refine WC.exit ?_
    (clear hK; refine hK _ _ ?_; clear hK)
    refine WC.seq fun K hK => ?_
    refine WC.region rfl ?_
    refine wMS rfl rfl rfl rfl rfl ?_
    refine wMS rfl rfl rfl rfl rfl ?_
    refine WL.want rfl (WL1.callP rfl rfl rfl (.cons (.mk (v := .slice _ _ _) rfl rfl) (.cons (.mk (v := .slice _ _ _) rfl rfl) .nil)) (fun w hw => sameb_t (a := qs) (b := qs) (Sl.of_vec hw (by first | ((repeat (first | exact .head _ | apply List.Mem.tail)); done) | fail)) (Sl.of_vec hw (by first | ((repeat (first | exact .head _ | apply List.Mem.tail)); done) | fail)) hql hql rfl) ?_)
    refine wAB rfl rfl rfl rfl rfl ?_
    refine WL.nil (hK _ _ ?_); clear hK
    refine WC.ret ?_
    exact fun w' hw' => ⟨rfl, hw'.1⟩

theorem lifted (os : Os) (started : os.Started) (H : Type) (enc : TypeId × Value → H) :
    ReturnsInHanded {} Tryz.checked os 3 .any (Rows.wholeSilentSpec.pre6 enc Tryz.prog Tryz.f3 Rows.wholeSilentRow.domain false) (Rows.wholeSilentSpec.post enc Tryz.prog Tryz.f3 false true false false) := by
  refine returnsInHanded_of_change (C := Tryz.checked) own started (by kernel_rfl) Tryz.func3
    (ChangeSpec.witness6 (enc := enc) (C := Tryz.checked) false ⟨#[], #[.slice none 0 0, .int .u16 0, .slice none 0 0, .slice none 0 0], []⟩ 8 (by kernel_rfl) (by kernel_rfl) (by kernel_rfl) (by kernel_rfl)) ?_
  intro W base args ds gs before hval0 hW _ _
  have hval : ∀ (j : Nat) t v, Tryz.f3.params[j]? = some t → args[j]? = some v → Value.okWide Tryz.prog W .any base t v := hval0
  have hW' := hW
  obtain ⟨p, q, hA0, hV, rfl, hfz, hnd⟩ := hW
  have hA : DataW.TrodAll enc Tryz.prog W 0 (fun _ => true) true Tryz.f3.params.toList args.toList ds p := hA0
  rw [Tryz.params3] at hA hval
  obtain ⟨v0, vs0, d0, ds0, p0, q0, hargs, rfl, rfl, h0, r0⟩ := trodAll_cons hA
  obtain ⟨v1, vs1, d1, ds1, p1, q1, rfl, rfl, rfl, h1, r1⟩ := trodAll_cons r0
  obtain ⟨v2, vs2, d2, ds2, p2, q2, rfl, rfl, rfl, h2, r2⟩ := trodAll_cons r1
  obtain ⟨v3, vs3, d3, ds3, p3, q3, rfl, rfl, rfl, h3, r3⟩ := trodAll_cons r2
  obtain ⟨rfl, rfl, rfl⟩ := trodAll_nil r3
  obtain rfl : args = #[v0, v1, v2, v3] := by cases args; simp_all
  obtain ⟨d, dsl⟩ := open_blks (hval 0 22 v0 rfl rfl) h0
  obtain ⟨s, rfl, sb⟩ := open_u16 (hval 1 23 v1 rfl rfl) h1
  obtain ⟨g, gsl⟩ := open_blks (hval 2 22 v2 rfl rfl) h2
  obtain ⟨l, lsl, lr⟩ := open_changes (hval 3 24 v3 rfl rfl) h3
  refine (walk (w := W) v0 d dsl s sb v2 g gsl v3 l lsl lr).mono fun e W' ⟨he, hb⟩ => ?_
  subst he
  exact ⟨_, rfl, law_post laidOut (by kernel_rfl) rfl rfl Tryz.underlying4 (fun ds h => by match ds, h with | [_, _, _, _], _ => rfl) hW' hb⟩

theorem proved : Rows.WholeSilentSaid :=
  OpenClaim.holds_of_wide 3 Tryz.f3 rfl rfl rfl rfl rfl rfl rfl ⟨rfl, rfl, rfl, rfl, rfl⟩ rfl rfl rfl rfl rfl (by kernel_rfl) Tryz.func3 (by kernel_rfl)
    (of_decide_eq_true (by kernel_rfl)) (by unfold Func.isWrapper; first | (rw [if_pos (by decide +kernel)]; kernel_rfl) | (rw [if_neg (by decide +kernel)]; exact ⟨rfl, rfl⟩))
    (fun os started H enc _ => lifted os started H enc)
end Go.Proofs.YtdcijljfgcjelaaGreat.LWholeSilent
