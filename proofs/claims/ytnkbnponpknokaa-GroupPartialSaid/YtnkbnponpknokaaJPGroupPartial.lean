/- GroupPartial answers true, whatever the data, the changes and the bad pieces: for a consistent group, what is computed from the pieces that Reads returns are the contents after Apply. No condition. -/
import Derived.Test.YtnkbnponpknokaaJP5
namespace Go.Proofs.Ytnkbnponpknokaa.LGroupPartial
set_option maxRecDepth 20000
open Go.RowKit Go.WideShapes Go.ChangeShapes Go.ChangeAt
attribute [local irreducible] Calls

theorem bit_e (b : Bool) (w : World) : Calls Try.prog 32 #[.bool b] w fun e w' => e = .returned (iv (if b then 1 else 0)) ∧ Below w.heap.size w w' := by
  cases b with
  | true =>
    refine calls_wc (args := [.bool true]) [2] [] Try.func32 rfl Try.ntmps32 rfl rfl rfl rfl (H.refl _) ?_
    refine WC.seq fun K hK => ?_
    refine WC.region rfl ?_
    refine wG rfl rfl (g_assign rfl (.mk (v := .int _ _) rfl rfl)) ?_
    refine WL.nil ?_
    (refine hK _ _ ?_; clear hK)
    refine WC.seq fun K hK => ?_
    refine WC.seq fun K hK => ?_
    refine WC.region rfl ?_
    refine wG rfl rfl (g_move rfl (.mk (v := .bool _) rfl rfl)) ?_
    refine WL.nil ?_
    (refine hK _ _ ?_; clear hK)
    refine WC.cond_true (.mk rfl rfl) ?_
    refine WC.seq fun K hK => ?_
    refine WC.region rfl ?_
    refine wG rfl rfl (g_assign rfl (.mk (v := .int _ _) rfl rfl)) ?_
    refine WL.nil ?_
    (refine hK _ _ ?_; clear hK)
    refine WC.ret ?_
    exact fun w' hw' => ⟨rfl, hw'.1⟩
  | false =>
    refine calls_wc (args := [.bool false]) [2] [] Try.func32 rfl Try.ntmps32 rfl rfl rfl rfl (H.refl _) ?_
    refine WC.seq fun K hK => ?_
    refine WC.region rfl ?_
    refine wG rfl rfl (g_assign rfl (.mk (v := .int _ _) rfl rfl)) ?_
    refine WL.nil ?_
    (refine hK _ _ ?_; clear hK)
    refine WC.seq fun K hK => ?_
    refine WC.seq fun K hK => ?_
    refine WC.region rfl ?_
    refine wG rfl rfl (g_move rfl (.mk (v := .bool _) rfl rfl)) ?_
    refine WL.nil ?_
    (refine hK _ _ ?_; clear hK)
    refine WC.cond_false (.mk rfl rfl) ?_
    refine WC.skip ?_
    (refine hK _ _ ?_; clear hK)
    refine WC.seq fun K hK => ?_
    refine WC.region rfl ?_
    refine wG rfl rfl (g_assign rfl (.mk (v := .int _ _) rfl rfl)) ?_
    refine WL.nil ?_
    (refine hK _ _ ?_; clear hK)
    refine WC.ret ?_
    exact fun w' hw' => ⟨rfl, hw'.1⟩
theorem bit1 (w : World) : Calls Try.prog 32 #[.bool true] w fun e w' => e = .returned (iv 1) ∧ Below w.heap.size w w' := bit_e true w
theorem bit0 (w : World) : Calls Try.prog 32 #[.bool false] w fun e w' => e = .returned (iv 0) ∧ Below w.heap.size w w' := bit_e false w
set_option maxHeartbeats 8000000 in
theorem walk (w : World) (vp : Value) (ds : List Blk) (hp : Sl w 8 vp ds.length (kvs ds)) (vl : Value) (l : List Chg) (hl : Sl w 9 vl l.length (cvs l)) (_lr : ∀ x ∈ l, x.ok) (B : Nat) (_bb : B < 65536) :
    Calls Try.prog 10 #[vp, vl, .int .u16 B] w fun en w' => en = .returned (.bool true) ∧ Below w.heap.size w w' := by
  obtain ⟨A, c, rfl, hc, hm, hs⟩ := hp.open_
  obtain ⟨D, d, rfl, hcd, hmd, hsb⟩ := hl.open_
  by_cases hd : ¬ (1 ≤ ds.length ∧ ds.length ≤ 13)
  · have hwh := fun w' hb => whole_bad (.slice A ds.length c) ds w' (hs.below (w' := w') hb) hd
    refine calls_wc (args := [.slice A ds.length c, .slice D l.length d, .int .u16 B]) [6] [] Try.func10 rfl Try.ntmps10 rfl rfl rfl rfl (H.refl _) ?_
    refine WC.seq fun K hK => ?_
    refine WC.region rfl ?_
    refine wG rfl rfl (g_assign rfl (.mk (v := .bool _) rfl rfl)) ?_
    refine WL.nil ?_
    (refine hK _ _ ?_; clear hK)
    refine WC.seq fun K hK => ?_
    refine WC.seq fun K hK => ?_
    refine WC.region rfl ?_
    refine WL.want rfl (WL1.callP rfl rfl rfl .nil (fun w hw => awake_e w) ?_)
    refine wG rfl rfl (g_notT rfl (.mk rfl rfl)) ?_
    refine WL.nil ?_
    (refine hK _ _ ?_; clear hK)
    refine WC.cond_false (.mk rfl rfl) ?_
    refine WC.skip ?_
    (refine hK _ _ ?_; clear hK)
    refine WC.seq fun K hK => ?_
    refine WC.region rfl ?_
    refine wG rfl rfl (g_move rfl (.mk (v := .slice _ _ _) rfl rfl)) ?_
    refine WL.want rfl (WL1.callP rfl rfl rfl (.cons (.mk (v := .slice _ _ _) rfl rfl) .nil) (fun w hw => hwh w hw.1) ?_)
    refine wG rfl rfl (g_move rfl (.mk (v := .tuple _) rfl rfl)) ?_
    refine wG rfl rfl (g_extract rfl (.mk rfl rfl) rfl) ?_
    refine wG rfl rfl (g_extract rfl (.mk rfl rfl) rfl) ?_
    refine wG rfl rfl (g_assign rfl (.mk (v := .slice _ _ _) rfl rfl)) ?_
    refine wG rfl rfl (g_assign rfl (.mk (v := .bool _) rfl rfl)) ?_
    refine WL.nil ?_
    (refine hK _ _ ?_; clear hK)
    refine WC.seq fun K hK => ?_
    refine WC.seq fun K hK => ?_
    refine WC.region rfl ?_
    refine wG rfl rfl (g_move rfl (.mk (v := .bool _) rfl rfl)) ?_
    refine wG rfl rfl (g_notF rfl (.mk rfl rfl)) ?_
    refine wG rfl rfl (g_move rfl (.mk (v := .bool _) rfl rfl)) ?_
    refine WL.skipG rfl rfl rfl rfl rfl rfl ?_
    refine WL.skipG rfl rfl rfl rfl rfl rfl ?_
    refine WL.skipG rfl rfl rfl rfl rfl rfl ?_
    refine wG rfl rfl (g_pickT rfl (.mk rfl rfl) (.mk (v := .bool _) rfl rfl)) ?_
    refine wG rfl rfl (g_move rfl (.mk (v := .bool _) rfl rfl)) ?_
    refine WL.skipG rfl rfl rfl rfl rfl rfl ?_
    refine WL.skipG rfl rfl rfl rfl rfl rfl ?_
    refine WL.skipG rfl rfl rfl rfl rfl rfl ?_
    refine wG rfl rfl (g_pickT rfl (.mk rfl rfl) (.mk (v := .bool _) rfl rfl)) ?_
    refine WL.nil ?_
    (refine hK _ _ ?_; clear hK)
    refine WC.cond_true (.mk rfl rfl) ?_
    refine WC.seq fun K hK => ?_
    refine WC.region rfl ?_
    refine wG rfl rfl (g_assign rfl (.mk (v := .bool _) rfl rfl)) ?_
    refine WL.nil ?_
    (refine hK _ _ ?_; clear hK)
    refine WC.ret ?_
    exact fun w' hw' => ⟨rfl, hw'.1⟩
  obtain ⟨hd1, hd2⟩ := Decidable.not_not.1 hd
  clear hd
  have hwh := fun w' hb => whole_n (.slice A ds.length c) ds w' (hs.below (w' := w') hb) hd1 hd2
  by_cases hl0 : l.length = 0
  · refine calls_wc (args := [.slice A ds.length c, .slice D l.length d, .int .u16 B]) [6] [] Try.func10 rfl Try.ntmps10 rfl rfl rfl rfl (H.refl _) ?_
    refine WC.seq fun K hK => ?_
    refine WC.region rfl ?_
    refine wG rfl rfl (g_assign rfl (.mk (v := .bool _) rfl rfl)) ?_
    refine WL.nil ?_
    (refine hK _ _ ?_; clear hK)
    refine WC.seq fun K hK => ?_
    refine WC.seq fun K hK => ?_
    refine WC.region rfl ?_
    refine WL.want rfl (WL1.callP rfl rfl rfl .nil (fun w hw => awake_e w) ?_)
    refine wG rfl rfl (g_notT rfl (.mk rfl rfl)) ?_
    refine WL.nil ?_
    (refine hK _ _ ?_; clear hK)
    refine WC.cond_false (.mk rfl rfl) ?_
    refine WC.skip ?_
    (refine hK _ _ ?_; clear hK)
    refine WC.seq fun K hK => ?_
    refine WC.region rfl ?_
    refine wG rfl rfl (g_move rfl (.mk (v := .slice _ _ _) rfl rfl)) ?_
    (refine WL.want rfl (WL1.callN rfl rfl rfl (.cons (.mk (v := .slice _ _ _) rfl rfl) .nil) (fun w hw => hwh w hw.1) ?_); rintro _ _ ⟨Ap, cp, rfl, rfl⟩)
    refine wG rfl rfl (g_move rfl (.mk (v := .tuple _) rfl rfl)) ?_
    refine wG rfl rfl (g_extract rfl (.mk rfl rfl) rfl) ?_
    refine wG rfl rfl (g_extract rfl (.mk rfl rfl) rfl) ?_
    refine wG rfl rfl (g_assign rfl (.mk (v := .slice _ _ _) rfl rfl)) ?_
    refine wG rfl rfl (g_assign rfl (.mk (v := .bool _) rfl rfl)) ?_
    refine WL.nil ?_
    (refine hK _ _ ?_; clear hK)
    refine WC.seq fun K hK => ?_
    refine WC.seq fun K hK => ?_
    refine WC.region rfl ?_
    refine wG rfl rfl (g_move rfl (.mk (v := .bool _) rfl rfl)) ?_
    refine wG rfl rfl (g_notT rfl (.mk rfl rfl)) ?_
    refine wG rfl rfl (g_move rfl (.mk (v := .bool _) rfl rfl)) ?_
    refine WL.wantG rfl rfl rfl rfl (WL1.give rfl (g_move rfl (.mk (v := .slice _ _ _) rfl rfl)) ?_)
    refine WL.wantG rfl rfl rfl rfl (WL1.give rfl (g_len rfl (.mk rfl rfl) rfl) ?_)
    refine WL.wantG rfl rfl rfl rfl (WL1.give rfl (g_eq rfl (.mk rfl rfl) (.mk rfl rfl) (decide_eq_true (by omega))) ?_)
    refine wG rfl rfl (g_pickF rfl (.mk rfl rfl) (.mk (v := .bool _) rfl rfl)) ?_
    refine wG rfl rfl (g_move rfl (.mk (v := .bool _) rfl rfl)) ?_
    refine WL.skipG rfl rfl rfl rfl rfl rfl ?_
    refine WL.skipG rfl rfl rfl rfl rfl rfl ?_
    refine WL.skipG rfl rfl rfl rfl rfl rfl ?_
    refine wG rfl rfl (g_pickT rfl (.mk rfl rfl) (.mk (v := .bool _) rfl rfl)) ?_
    refine WL.nil ?_
    (refine hK _ _ ?_; clear hK)
    refine WC.cond_true (.mk rfl rfl) ?_
    refine WC.seq fun K hK => ?_
    refine WC.region rfl ?_
    refine wG rfl rfl (g_assign rfl (.mk (v := .bool _) rfl rfl)) ?_
    refine WL.nil ?_
    (refine hK _ _ ?_; clear hK)
    refine WC.ret ?_
    exact fun w' hw' => ⟨rfl, hw'.1⟩
  by_cases hl20 : 20 < l.length
  · refine calls_wc (args := [.slice A ds.length c, .slice D l.length d, .int .u16 B]) [6] [] Try.func10 rfl Try.ntmps10 rfl rfl rfl rfl (H.refl _) ?_
    refine WC.seq fun K hK => ?_
    refine WC.region rfl ?_
    refine wG rfl rfl (g_assign rfl (.mk (v := .bool _) rfl rfl)) ?_
    refine WL.nil ?_
    (refine hK _ _ ?_; clear hK)
    refine WC.seq fun K hK => ?_
    refine WC.seq fun K hK => ?_
    refine WC.region rfl ?_
    refine WL.want rfl (WL1.callP rfl rfl rfl .nil (fun w hw => awake_e w) ?_)
    refine wG rfl rfl (g_notT rfl (.mk rfl rfl)) ?_
    refine WL.nil ?_
    (refine hK _ _ ?_; clear hK)
    refine WC.cond_false (.mk rfl rfl) ?_
    refine WC.skip ?_
    (refine hK _ _ ?_; clear hK)
    refine WC.seq fun K hK => ?_
    refine WC.region rfl ?_
    refine wG rfl rfl (g_move rfl (.mk (v := .slice _ _ _) rfl rfl)) ?_
    (refine WL.want rfl (WL1.callN rfl rfl rfl (.cons (.mk (v := .slice _ _ _) rfl rfl) .nil) (fun w hw => hwh w hw.1) ?_); rintro _ _ ⟨Ap, cp, rfl, rfl⟩)
    refine wG rfl rfl (g_move rfl (.mk (v := .tuple _) rfl rfl)) ?_
    refine wG rfl rfl (g_extract rfl (.mk rfl rfl) rfl) ?_
    refine wG rfl rfl (g_extract rfl (.mk rfl rfl) rfl) ?_
    refine wG rfl rfl (g_assign rfl (.mk (v := .slice _ _ _) rfl rfl)) ?_
    refine wG rfl rfl (g_assign rfl (.mk (v := .bool _) rfl rfl)) ?_
    refine WL.nil ?_
    (refine hK _ _ ?_; clear hK)
    refine WC.seq fun K hK => ?_
    refine WC.seq fun K hK => ?_
    refine WC.region rfl ?_
    refine wG rfl rfl (g_move rfl (.mk (v := .bool _) rfl rfl)) ?_
    refine wG rfl rfl (g_notT rfl (.mk rfl rfl)) ?_
    refine wG rfl rfl (g_move rfl (.mk (v := .bool _) rfl rfl)) ?_
    refine WL.wantG rfl rfl rfl rfl (WL1.give rfl (g_move rfl (.mk (v := .slice _ _ _) rfl rfl)) ?_)
    refine WL.wantG rfl rfl rfl rfl (WL1.give rfl (g_len rfl (.mk rfl rfl) rfl) ?_)
    refine WL.wantG rfl rfl rfl rfl (WL1.give rfl (g_eq rfl (.mk rfl rfl) (.mk rfl rfl) (decide_eq_false (by omega))) ?_)
    refine wG rfl rfl (g_pickF rfl (.mk rfl rfl) (.mk (v := .bool _) rfl rfl)) ?_
    refine wG rfl rfl (g_move rfl (.mk (v := .bool _) rfl rfl)) ?_
    refine WL.wantG rfl rfl rfl rfl (WL1.give rfl (g_move rfl (.mk (v := .slice _ _ _) rfl rfl)) ?_)
    refine WL.wantG rfl rfl rfl rfl (WL1.give rfl (g_len rfl (.mk rfl rfl) rfl) ?_)
    refine WL.wantG rfl rfl rfl rfl (WL1.give rfl (g_gt rfl (.mk rfl rfl) (.mk rfl rfl) (decide_eq_true (by omega))) ?_)
    refine wG rfl rfl (g_pickF rfl (.mk rfl rfl) (.mk (v := .bool _) rfl rfl)) ?_
    refine WL.nil ?_
    (refine hK _ _ ?_; clear hK)
    refine WC.cond_true (.mk rfl rfl) ?_
    refine WC.seq fun K hK => ?_
    refine WC.region rfl ?_
    refine wG rfl rfl (g_assign rfl (.mk (v := .bool _) rfl rfl)) ?_
    refine WL.nil ?_
    (refine hK _ _ ?_; clear hK)
    refine WC.ret ?_
    exact fun w' hw' => ⟨rfl, hw'.1⟩
  obtain ⟨N, hN⟩ : ∃ N, N = ds.length := ⟨_, rfl⟩
  have hwh : ∀ w', Below w.heap.size w w' → Calls Try.prog 19 #[.slice A ds.length c] w' fun e w2 => ∃ v' M, e = .returned v' ∧ H w' M w2 ∧ ∃ A1 c1, v' = .tuple #[.slice A1 (N + 3) c1, .bool true] ∧ M = [vec A1 (N + 3) c1 38 8 (kvs (ds ++ enc ds))] := fun w' hb => by rw [hN]; exact hwh w' hb
  have hgl : (ds ++ enc ds).length = N + 3 := by rw [List.length_append, enc3, hN]
  have hgg : isGroup (ds ++ enc ds) = true := group_enc hd1 hd2
  cases ho : okC ((N + 3 : Nat) : Int) l with
  | false =>
    have hap : ∀ w' v v2, Sl w' 8 v (N + 3) (kvs (ds ++ enc ds)) → Sl w' 9 v2 l.length (cvs l) → Calls Try.prog 14 #[v, v2] w' fun e w2 => e = .returned (.tuple #[.slice none 0 0, .slice none 0 0, iv 1]) ∧ Below w'.heap.size w' w2 := fun w' v v2 h1 h2 => grapply_bad v v2 (ds ++ enc ds) l w' (by rw [hgl]; exact h1) h2 (by omega) (fun q => by have := q.2; rw [hgl, ho] at this; cases this)
    refine calls_wc (args := [.slice A ds.length c, .slice D l.length d, .int .u16 B]) [6] [] Try.func10 rfl Try.ntmps10 rfl rfl rfl rfl (H.refl _) ?_
    refine WC.seq fun K hK => ?_
    refine WC.region rfl ?_
    refine wG rfl rfl (g_assign rfl (.mk (v := .bool _) rfl rfl)) ?_
    refine WL.nil ?_
    (refine hK _ _ ?_; clear hK)
    refine WC.seq fun K hK => ?_
    refine WC.seq fun K hK => ?_
    refine WC.region rfl ?_
    refine WL.want rfl (WL1.callP rfl rfl rfl .nil (fun w hw => awake_e w) ?_)
    refine wG rfl rfl (g_notT rfl (.mk rfl rfl)) ?_
    refine WL.nil ?_
    (refine hK _ _ ?_; clear hK)
    refine WC.cond_false (.mk rfl rfl) ?_
    refine WC.skip ?_
    (refine hK _ _ ?_; clear hK)
    refine WC.seq fun K hK => ?_
    refine WC.region rfl ?_
    refine wG rfl rfl (g_move rfl (.mk (v := .slice _ _ _) rfl rfl)) ?_
    (refine WL.want rfl (WL1.callN rfl rfl rfl (.cons (.mk (v := .slice _ _ _) rfl rfl) .nil) (fun w hw => hwh w hw.1) ?_); rintro _ _ ⟨Ap, cp, rfl, rfl⟩)
    refine wG rfl rfl (g_move rfl (.mk (v := .tuple _) rfl rfl)) ?_
    refine wG rfl rfl (g_extract rfl (.mk rfl rfl) rfl) ?_
    refine wG rfl rfl (g_extract rfl (.mk rfl rfl) rfl) ?_
    refine wG rfl rfl (g_assign rfl (.mk (v := .slice _ _ _) rfl rfl)) ?_
    refine wG rfl rfl (g_assign rfl (.mk (v := .bool _) rfl rfl)) ?_
    refine WL.nil ?_
    (refine hK _ _ ?_; clear hK)
    refine WC.seq fun K hK => ?_
    refine WC.seq fun K hK => ?_
    refine WC.region rfl ?_
    refine wG rfl rfl (g_move rfl (.mk (v := .bool _) rfl rfl)) ?_
    refine wG rfl rfl (g_notT rfl (.mk rfl rfl)) ?_
    refine wG rfl rfl (g_move rfl (.mk (v := .bool _) rfl rfl)) ?_
    refine WL.wantG rfl rfl rfl rfl (WL1.give rfl (g_move rfl (.mk (v := .slice _ _ _) rfl rfl)) ?_)
    refine WL.wantG rfl rfl rfl rfl (WL1.give rfl (g_len rfl (.mk rfl rfl) rfl) ?_)
    refine WL.wantG rfl rfl rfl rfl (WL1.give rfl (g_eq rfl (.mk rfl rfl) (.mk rfl rfl) (decide_eq_false (by omega))) ?_)
    refine wG rfl rfl (g_pickF rfl (.mk rfl rfl) (.mk (v := .bool _) rfl rfl)) ?_
    refine wG rfl rfl (g_move rfl (.mk (v := .bool _) rfl rfl)) ?_
    refine WL.wantG rfl rfl rfl rfl (WL1.give rfl (g_move rfl (.mk (v := .slice _ _ _) rfl rfl)) ?_)
    refine WL.wantG rfl rfl rfl rfl (WL1.give rfl (g_len rfl (.mk rfl rfl) rfl) ?_)
    refine WL.wantG rfl rfl rfl rfl (WL1.give rfl (g_gt rfl (.mk rfl rfl) (.mk rfl rfl) (decide_eq_false (by omega))) ?_)
    refine wG rfl rfl (g_pickF rfl (.mk rfl rfl) (.mk (v := .bool _) rfl rfl)) ?_
    refine WL.nil ?_
    (refine hK _ _ ?_; clear hK)
    refine WC.cond_false (.mk rfl rfl) ?_
    refine WC.skip ?_
    (refine hK _ _ ?_; clear hK)
    refine WC.seq fun K hK => ?_
    refine WC.region rfl ?_
    refine wG rfl rfl (g_move rfl (.mk (v := .slice _ _ _) rfl rfl)) ?_
    refine wG rfl rfl (g_move rfl (.mk (v := .slice _ _ _) rfl rfl)) ?_
    refine WL.want rfl (WL1.callP rfl rfl rfl (.cons (.mk (v := .slice _ _ _) rfl rfl) (.cons (.mk (v := .slice _ _ _) rfl rfl) .nil)) (fun w hw => hap w _ _ (Sl.of_vec hw (by repeat (first | exact .head _ | apply List.Mem.tail))) (hsb.below hw.1)) ?_)
    refine wG rfl rfl (g_move rfl (.mk (v := .tuple _) rfl rfl)) ?_
    refine wG rfl rfl (g_extract rfl (.mk rfl rfl) rfl) ?_
    refine wG rfl rfl (g_extract rfl (.mk rfl rfl) rfl) ?_
    refine wG rfl rfl (g_extract rfl (.mk rfl rfl) rfl) ?_
    refine wG rfl rfl (g_assign rfl (.mk (v := .slice _ _ _) rfl rfl)) ?_
    refine wG rfl rfl (g_assign rfl (.mk (v := .slice _ _ _) rfl rfl)) ?_
    refine wG rfl rfl (g_assign rfl (.mk (v := .int _ _) rfl rfl)) ?_
    refine WL.nil ?_
    (refine hK _ _ ?_; clear hK)
    refine WC.seq fun K hK => ?_
    refine WC.seq fun K hK => ?_
    refine WC.region rfl ?_
    refine wG rfl rfl (g_move rfl (.mk (v := .int _ _) rfl rfl)) ?_
    refine wG rfl rfl (g_ne rfl (.mk rfl rfl) (.mk rfl rfl) (decide_eq_true (by omega))) ?_
    refine WL.nil ?_
    (refine hK _ _ ?_; clear hK)
    refine WC.cond_true (.mk rfl rfl) ?_
    refine WC.seq fun K hK => ?_
    refine WC.region rfl ?_
    refine wG rfl rfl (g_assign rfl (.mk (v := .bool _) rfl rfl)) ?_
    refine WL.nil ?_
    (refine hK _ _ ?_; clear hK)
    refine WC.ret ?_
    exact fun w' hw' => ⟨rfl, hw'.1⟩
  | true =>
    have hN1 : 1 ≤ N := by omega
    have hN2 : N ≤ 13 := by omega
    have hqa : apL (ds ++ enc ds) l = datP ds l l.length ++ enc (datP ds l l.length) := apL_group
    have hap : ∀ w' v v2, Sl w' 8 v (N + 3) (kvs (ds ++ enc ds)) → Sl w' 9 v2 l.length (cvs l) → Calls Try.prog 14 #[v, v2] w' fun e w2 => ∃ v' M, e = .returned v' ∧ H w' M w2 ∧ ∃ A c F fc k g, v' = .tuple #[.slice A (N + 3) c, .slice F k fc, iv 0] ∧ M = [vec A (N + 3) c 38 8 (kvs (apL (ds ++ enc ds) l)), vec F k fc 3 1 g] := fun w' v v2 h1 h2 => by
      refine (grapply_n v v2 (ds ++ enc ds) l N w' (by rw [hgl]; exact h1) h2 hgl hN1 hN2 (by omega) hgg (by rw [hgl]; exact ho)).mono ?_
      rintro e w2 ⟨v', M, h3, h4, A1, c1, F, fc, h5, h6⟩
      rw [hgl] at h5 h6
      exact ⟨v', M, h3, h4, A1, c1, F, fc, _, _, h5, h6⟩
    have hfr := fun w' hb => from_n (.slice D l.length d) l w' (hsb.below (w' := w') hb) (by omega)
    have htc := fun w' hb => rtouched_n (.slice D l.length d) l (N + 3) w' (hsb.below (w' := w') hb) (by omega)
    have hT0 := tch_pos (by omega) ho
    have hTn : (tch l (N + 3)).length ≤ N + 3 := numL_le _ _
    have hTok := tch_okT ho
    have hrd := fun w' (bs : List Bool) (A B : Option Addr) (c d : Nat) (hb : bs.length = N + 3) (h3 : mkN bs (N + 3) ≤ 3) (h : Sl w' 1 (.slice A (tch l (N + 3)).length c) (tch l (N + 3)).length (ldv (tch l (N + 3)))) (h' : Sl w' 1 (.slice B (N + 3) d) (N + 3) (bls bs)) => reads_k (w := w') (A := A) (B := B) (c := c) (d := d) (N := N) (m := N + 3) (t := (tch l (N + 3)).length) (zm := ((N + 3 : Nat) : Int)) (T := ints (tch l (N + 3))) (bs := bs) (out := refL N (ints (tch l (N + 3))) bs) rfl hb (ints_len _) rfl hN1 hN2 hTok hT0 (by omega) h3 (mkN_good h3) (o3_ref hb (mkN_good h3)) (by rw [← ldv_ints]; exact h) h'
    have hfin := fun (bs : List Bool) (h3 : mkN bs (N + 3) ≤ 3) => refL_fine (T := ints (tch l (N + 3))) (mkN_good h3)
    have hright := fun bs hb hg => cmp_right (bs := bs) (l := l) hN.symm hN1 hN2 ho hb hg
    have hres := fun p hp => res_all (p := p) hN.symm ho hp
    have hrok := fun p k hk => resL_ok (p := p) (k := k) hN2 ho hk
    have hrln := fun p => resL_len l (tch l (N + 3)) N p
    obtain ⟨ps, hps⟩ : ∃ ps, ps = ds ++ enc ds := ⟨_, rfl⟩
    obtain ⟨Y, hY⟩ : ∃ Y, Y = enc (datP ds l l.length) := ⟨_, rfl⟩
    have hY3 : Y.length = 3 := by rw [hY, enc3]
    have hres := hres Y hY3
    have hrok := hrok Y
    have hrln := hrln Y
    obtain ⟨rs, hrs⟩ : ∃ rs, rs = resL l (tch l (N + 3)) N Y := ⟨_, rfl⟩
    have hcomp := fun w' (bs : List Bool) (A B D : Option Addr) (c d e : Nat) (R : List Nat) (O : List Blk) (hbl : bs.length = N + 3) (h3 : mkN bs (N + 3) ≤ 3) (hR : R = refL N (ints (tch l (N + 3))) bs) (hO : O = R.map (nth ps)) (hRl : R.length ≤ 1000) (h1 : Sl w' 1 (.slice A R.length c) R.length (ldv R)) (h2 : Sl w' 8 (.slice B R.length d) R.length (kvs O)) (h4 : Sl w' 9 (.slice D l.length e) l.length (cvs l)) => by
      have hcm := hright bs hbl (mkN_good h3)
      rw [← hR, ← hps, ← hO, ← hY] at hcm
      have hOl : O.length = R.length := by rw [hO, List.length_map]
      have := compute_s (w := w') (A := A) (B := B) (D := D) (c := c) (d := d) (e := e) hcm rfl hN1 hN2 ho hl0 (by omega) (by rw [ints_len, hOl]) (by rw [ints_len]; exact hRl) (by rw [ints_len, ← ldv_ints]; exact h1) (by rw [hOl]; exact h2) h4
      rw [ints_len, hOl, ← hrs] at this
      exact this
    rw [← hps] at hres hap hgl hwh hqa
    have hqa2 : apL ps l = datP ds l l.length ++ Y := by rw [hqa, hY]
    rw [← hqa2] at hres
    obtain ⟨T, hT⟩ : ∃ T, T = tch l (N + 3) := ⟨_, rfl⟩
    rw [← hT] at htc hT0 hTn hrd hcomp hres hrok hrln hrs hfin
    rw [← hrs] at hres hrok hrln
    obtain ⟨qs, hqs⟩ : ∃ qs, qs = apL ps l := ⟨_, rfl⟩
    rw [← hqs] at hap hres
    have hql : qs.length = N + 3 := by rw [← hres, datP_len, hgl]
    have hmade := bls_made (N + 3)
    clear hright hqs hT hrs hY hps hqa hqa2 hTok
    refine calls_wc (args := [.slice A ds.length c, .slice D l.length d, .int .u16 B]) [6] [] Try.func10 rfl Try.ntmps10 rfl rfl rfl rfl (H.refl _) ?_
    refine WC.seq fun K hK => ?_
    refine WC.region rfl ?_
    refine wG rfl rfl (g_assign rfl (.mk (v := .bool _) rfl rfl)) ?_
    refine WL.nil ?_
    (refine hK _ _ ?_; clear hK)
    refine WC.seq fun K hK => ?_
    refine WC.seq fun K hK => ?_
    refine WC.region rfl ?_
    refine WL.want rfl (WL1.callP rfl rfl rfl .nil (fun w hw => awake_e w) ?_)
    refine wG rfl rfl (g_notT rfl (.mk rfl rfl)) ?_
    refine WL.nil ?_
    (refine hK _ _ ?_; clear hK)
    refine WC.cond_false (.mk rfl rfl) ?_
    refine WC.skip ?_
    (refine hK _ _ ?_; clear hK)
    refine WC.seq fun K hK => ?_
    refine WC.region rfl ?_
    refine wG rfl rfl (g_move rfl (.mk (v := .slice _ _ _) rfl rfl)) ?_
    (refine WL.want rfl (WL1.callN rfl rfl rfl (.cons (.mk (v := .slice _ _ _) rfl rfl) .nil) (fun w hw => hwh w hw.1) ?_); rintro _ _ ⟨Ap, cp, rfl, rfl⟩)
    refine wG rfl rfl (g_move rfl (.mk (v := .tuple _) rfl rfl)) ?_
    refine wG rfl rfl (g_extract rfl (.mk rfl rfl) rfl) ?_
    refine wG rfl rfl (g_extract rfl (.mk rfl rfl) rfl) ?_
    refine wG rfl rfl (g_assign rfl (.mk (v := .slice _ _ _) rfl rfl)) ?_
    refine wG rfl rfl (g_assign rfl (.mk (v := .bool _) rfl rfl)) ?_
    refine WL.nil ?_
    (refine hK _ _ ?_; clear hK)
    refine WC.seq fun K hK => ?_
    refine WC.seq fun K hK => ?_
    refine WC.region rfl ?_
    refine wG rfl rfl (g_move rfl (.mk (v := .bool _) rfl rfl)) ?_
    refine wG rfl rfl (g_notT rfl (.mk rfl rfl)) ?_
    refine wG rfl rfl (g_move rfl (.mk (v := .bool _) rfl rfl)) ?_
    refine WL.wantG rfl rfl rfl rfl (WL1.give rfl (g_move rfl (.mk (v := .slice _ _ _) rfl rfl)) ?_)
    refine WL.wantG rfl rfl rfl rfl (WL1.give rfl (g_len rfl (.mk rfl rfl) rfl) ?_)
    refine WL.wantG rfl rfl rfl rfl (WL1.give rfl (g_eq rfl (.mk rfl rfl) (.mk rfl rfl) (decide_eq_false (by omega))) ?_)
    refine wG rfl rfl (g_pickF rfl (.mk rfl rfl) (.mk (v := .bool _) rfl rfl)) ?_
    refine wG rfl rfl (g_move rfl (.mk (v := .bool _) rfl rfl)) ?_
    refine WL.wantG rfl rfl rfl rfl (WL1.give rfl (g_move rfl (.mk (v := .slice _ _ _) rfl rfl)) ?_)
    refine WL.wantG rfl rfl rfl rfl (WL1.give rfl (g_len rfl (.mk rfl rfl) rfl) ?_)
    refine WL.wantG rfl rfl rfl rfl (WL1.give rfl (g_gt rfl (.mk rfl rfl) (.mk rfl rfl) (decide_eq_false (by omega))) ?_)
    refine wG rfl rfl (g_pickF rfl (.mk rfl rfl) (.mk (v := .bool _) rfl rfl)) ?_
    refine WL.nil ?_
    (refine hK _ _ ?_; clear hK)
    refine WC.cond_false (.mk rfl rfl) ?_
    refine WC.skip ?_
    (refine hK _ _ ?_; clear hK)
    refine WC.seq fun K hK => ?_
    refine WC.region rfl ?_
    refine wG rfl rfl (g_move rfl (.mk (v := .slice _ _ _) rfl rfl)) ?_
    refine wG rfl rfl (g_move rfl (.mk (v := .slice _ _ _) rfl rfl)) ?_
    (refine WL.want rfl (WL1.callN rfl rfl rfl (.cons (.mk (v := .slice _ _ _) rfl rfl) (.cons (.mk (v := .slice _ _ _) rfl rfl) .nil)) (fun w hw => hap w _ _ (Sl.of_vec hw (by repeat (first | exact .head _ | apply List.Mem.tail))) (hsb.below hw.1)) ?_); rintro _ _ ⟨Aw, cw, Fd, fd, kd, gd, rfl, rfl⟩)
    refine wG rfl rfl (g_move rfl (.mk (v := .tuple _) rfl rfl)) ?_
    refine wG rfl rfl (g_extract rfl (.mk rfl rfl) rfl) ?_
    refine wG rfl rfl (g_extract rfl (.mk rfl rfl) rfl) ?_
    refine wG rfl rfl (g_extract rfl (.mk rfl rfl) rfl) ?_
    refine wG rfl rfl (g_assign rfl (.mk (v := .slice _ _ _) rfl rfl)) ?_
    refine wG rfl rfl (g_assign rfl (.mk (v := .slice _ _ _) rfl rfl)) ?_
    refine wG rfl rfl (g_assign rfl (.mk (v := .int _ _) rfl rfl)) ?_
    refine WL.nil ?_
    (refine hK _ _ ?_; clear hK)
    refine WC.seq fun K hK => ?_
    refine WC.seq fun K hK => ?_
    refine WC.region rfl ?_
    refine wG rfl rfl (g_move rfl (.mk (v := .int _ _) rfl rfl)) ?_
    refine wG rfl rfl (g_ne rfl (.mk rfl rfl) (.mk rfl rfl) (decide_eq_false (by omega))) ?_
    refine WL.nil ?_
    (refine hK _ _ ?_; clear hK)
    refine WC.cond_false (.mk rfl rfl) ?_
    refine WC.skip ?_
    (refine hK _ _ ?_; clear hK)
    refine WC.seq fun K hK => ?_
    refine WC.region rfl ?_
    refine wG rfl rfl (g_move rfl (.mk (v := .slice _ _ _) rfl rfl)) ?_
    refine wG rfl rfl (g_len rfl (.mk rfl rfl) rfl) ?_
    refine WL.want rfl (WL1.make elBo rfl rfl (.mk rfl rfl) (.mk rfl rfl) rfl rfl (by omega) (by unfold maxLen; omega) (fun b55 => ?_))
    refine wG rfl rfl (g_assign rfl (.mk (v := .slice _ _ _) rfl rfl)) ?_
    refine WL.nil ?_
    (refine hK _ _ ?_; clear hK)
    refine WC.seq fun K hK => ?_
    refine WC.region rfl ?_
    refine wG rfl rfl (g_assign rfl (.mk (v := .int _ _) rfl rfl)) ?_
    refine WL.nil ?_
    (refine hK _ _ ?_; clear hK)
    refine WC.seq fun K hK => ?_
    refine WC.seq fun K hK => ?_
    refine WC.region rfl ?_
    refine wG rfl rfl (g_move rfl (.mk (v := .slice _ _ _) rfl rfl)) ?_
    refine wG rfl rfl (g_len rfl (.mk rfl rfl) rfl) ?_
    refine wG rfl rfl (g_move rfl (.mk (v := .int _ _) rfl rfl)) ?_
    refine WL.nil ?_
    (refine hK _ _ ?_; clear hK)
    refine WC.block ?_
    rw [hmade]
    refine WC.loopF3 (fun (i : Nat) (bs : List Bool) (n : Nat) => [(58, iv i), (57, iv ((N + 3 : Nat) : Int)), (13, iv n), (12, .slice (some ⟨b55, 0, none⟩) (N + 3) (N + 3)), (7, .slice Ap (N + 3) cp), (9, .slice Aw (N + 3) cw), (1, .slice D l.length d), (2, .int .u16 B)]) (fun i bs n => [vec (some ⟨b55, 0, none⟩) (N + 3) (N + 3) 4 1 (bls bs), vec Aw (N + 3) cw 38 8 (kvs qs), vec Ap (N + 3) cp 38 8 (kvs ps)]) (fun i bs n => i ≤ N + 3 ∧ bs.length = N + 3 ∧ n = mkN bs i ∧ n ≤ 3) (fun i _ _ => N + 3 - i) 0 (List.replicate (N + 3) false) 0 (by repeat (first | exact trivial | refine ⟨rfl, ?_⟩)) (Imp.pick (by repeat (first | exact .head | apply Take.tail)) (Imp.pick (by repeat (first | exact .head | apply Take.tail)) (Imp.pick (by repeat (first | exact .head | apply Take.tail)) (Imp.nil _)))) ⟨by omega, List.length_replicate, rfl, by omega⟩ ?_
    rintro i bs n U ⟨hi, hbl, hn, hn3⟩
    by_cases hlt : i < N + 3
    · obtain ⟨q, hq⟩ : ∃ q, (B : Int).fdiv (2 ^ (min (i : Int).toNat IntKind.u16.bits)) = q := ⟨_, rfl⟩
      obtain ⟨r, hr⟩ : ∃ r : Int, IntKind.u16.wrap (BitVec.ofInt IntKind.u16.bits q &&& BitVec.ofInt IntKind.u16.bits 1).toNat = r := ⟨_, rfl⟩
      have ha1 : IntKind.i64.wrap ((n : Int) + 1) = ((n + 1 : Nat) : Int) := by rw [IntWalk.i64_in _ (by omega)]; omega
      have ha0 : IntKind.i64.wrap ((n : Int) + 0) = ((n : Nat) : Int) := by rw [IntWalk.i64_in _ (by omega)]; omega
      have hln : (bls bs).length = N + 3 := by rw [bls_len, hbl]
      have hset := fun b : Bool => bls_put (l := bs) (k := i) (x := b) (Nat.mul_one i)
      have hmk := fun b : Bool => mkN_set (b := b) (by omega : i < bs.length)
      have hsl := fun b : Bool => (List.length_set : (bs.set i b).length = bs.length)
      have hgt : ∀ b : Bool, (bls (bs.set i b))[i * 1]? = some (.bool b) := fun b => by
        rw [bls_get (by rw [hsl]; omega), nth_set_eq (by omega), if_pos rfl]
      clear hres hrd hcomp hrok hfr htc hap hwh hmade hfin
      by_cases hr1 : r = 1
      · by_cases hn2 : n < 3
        · have hst := hset true
          have g1 := hgt true
          have hm1 := hmk true
          rw [← hst] at g1
          refine WC.seq fun K hK => ?_
          refine WC.region rfl ?_
          refine wG rfl rfl (g_lt rfl (.mk rfl rfl) (.mk rfl rfl) (decide_eq_true (by omega))) ?_
          refine WL.nil ?_
          (refine hK _ _ ?_; clear hK)
          refine WC.seq fun K hK => ?_
          refine WC.cond_true (.mk rfl rfl) ?_
          refine WC.skip ?_
          (refine hK _ _ ?_; clear hK)
          refine WC.seq fun K hK => ?_
          refine WC.block ?_
          refine WC.seq fun K hK => ?_
          refine WC.region rfl ?_
          refine wG rfl rfl (g_move rfl (.mk (v := .int _ _) rfl rfl)) ?_
          refine wG rfl rfl (g_assign rfl (.mk (v := .int _ _) rfl rfl)) ?_
          refine WL.nil ?_
          (refine hK _ _ ?_; clear hK)
          refine WC.seq fun K hK => ?_
          refine WC.region rfl ?_
          refine wG rfl rfl (g_move rfl (.mk (v := .slice _ _ _) rfl rfl)) ?_
          refine wG rfl rfl (g_move rfl (.mk (v := .int _ _) rfl rfl)) ?_
          refine wG rfl rfl (g_move rfl (.mk (v := .int _ _) rfl rfl)) ?_
          refine wG rfl rfl (g_move rfl (.mk (v := .int _ _) rfl rfl)) ?_
          refine wG rfl rfl (g_shr rfl (.mk rfl rfl) (.mk rfl rfl) (by omega) hq) ?_
          refine wG rfl rfl (g_and rfl (.mk rfl rfl) (.mk rfl rfl) hr) ?_
          refine wG rfl rfl (g_eq rfl (.mk rfl rfl) (.mk rfl rfl) (decide_eq_true (by omega))) ?_
          refine wG rfl rfl (g_move rfl (.mk (v := .bool _) rfl rfl)) ?_
          refine WL.wantG rfl rfl rfl rfl (WL1.give rfl (g_move rfl (.mk (v := .int _ _) rfl rfl)) ?_)
          refine WL.wantG rfl rfl rfl rfl (WL1.give rfl (g_lt rfl (.mk rfl rfl) (.mk rfl rfl) (decide_eq_true (by omega))) ?_)
          refine wG rfl rfl (g_pickT rfl (.mk rfl rfl) (.mk (v := .bool _) rfl rfl)) ?_
          refine wG rfl rfl (g_indexAddr (sz := 1) rfl (.mk rfl rfl) (.mk rfl rfl) rfl rfl rfl (by omega) (fun _ _ => rfl)) ?_
          refine WL.want rfl (WL1.storeV1 rfl rfl (.mk rfl rfl) (.mk (v := .bool _) rfl rfl) rfl rfl (by first | omega | (simp; done) | (simp; omega)) (.head) ?_)
          refine WL.nil ?_
          (refine hK _ _ ?_; clear hK)
          refine WC.region rfl ?_
          refine wG rfl rfl (g_move rfl (.mk (v := .int _ _) rfl rfl)) ?_
          refine wG rfl rfl (g_move rfl (.mk (v := .slice _ _ _) rfl rfl)) ?_
          refine wG rfl rfl (g_move rfl (.mk (v := .int _ _) rfl rfl)) ?_
          refine wG rfl rfl (g_indexAddr (sz := 1) rfl (.mk rfl rfl) (.mk rfl rfl) rfl rfl rfl (by omega) (fun _ _ => rfl)) ?_
          refine wG rfl rfl (g_load rfl (.mk rfl rfl) rfl (rd_vec (by repeat (first | exact .head _ | apply List.Mem.tail)) g1)) ?_
          refine WL.want rfl (WL1.callP rfl rfl rfl (.cons (.mk (v := .bool _) rfl rfl) .nil) (fun w hw => bit1 w) ?_)
          refine wG rfl rfl (g_add rfl (.mk rfl rfl) (.mk rfl rfl) ha1) ?_
          refine wG rfl rfl (g_assign rfl (.mk (v := .int _ _) rfl rfl)) ?_
          refine WL.nil ?_
          (refine hK _ _ ?_; clear hK)
          refine WC.region rfl ?_
          refine wG rfl rfl (g_add rfl (.mk rfl rfl) (.mk rfl rfl) (IntWalk.i64_in _ (by omega))) ?_
          refine wG rfl rfl (g_move rfl (.mk (v := .int _ _) rfl rfl)) ?_
          refine WL.nil ?_
          exact ⟨i + 1, bs.set i true, n + 1, (by repeat (first | exact trivial | refine ⟨rfl, ?_⟩)), by rw [← hst]; exact Imp.pick (by repeat (first | exact .head | apply Take.tail)) (Imp.pick (by repeat (first | exact .head | apply Take.tail)) (Imp.pick (by repeat (first | exact .head | apply Take.tail)) (Imp.nil _))), ⟨by omega, by rw [hsl]; exact hbl, by rw [hm1, hn]; rfl, by omega⟩, by omega⟩
        · have hst := hset false
          have g1 := hgt false
          have hm1 := hmk false
          rw [← hst] at g1
          refine WC.seq fun K hK => ?_
          refine WC.region rfl ?_
          refine wG rfl rfl (g_lt rfl (.mk rfl rfl) (.mk rfl rfl) (decide_eq_true (by omega))) ?_
          refine WL.nil ?_
          (refine hK _ _ ?_; clear hK)
          refine WC.seq fun K hK => ?_
          refine WC.cond_true (.mk rfl rfl) ?_
          refine WC.skip ?_
          (refine hK _ _ ?_; clear hK)
          refine WC.seq fun K hK => ?_
          refine WC.block ?_
          refine WC.seq fun K hK => ?_
          refine WC.region rfl ?_
          refine wG rfl rfl (g_move rfl (.mk (v := .int _ _) rfl rfl)) ?_
          refine wG rfl rfl (g_assign rfl (.mk (v := .int _ _) rfl rfl)) ?_
          refine WL.nil ?_
          (refine hK _ _ ?_; clear hK)
          refine WC.seq fun K hK => ?_
          refine WC.region rfl ?_
          refine wG rfl rfl (g_move rfl (.mk (v := .slice _ _ _) rfl rfl)) ?_
          refine wG rfl rfl (g_move rfl (.mk (v := .int _ _) rfl rfl)) ?_
          refine wG rfl rfl (g_move rfl (.mk (v := .int _ _) rfl rfl)) ?_
          refine wG rfl rfl (g_move rfl (.mk (v := .int _ _) rfl rfl)) ?_
          refine wG rfl rfl (g_shr rfl (.mk rfl rfl) (.mk rfl rfl) (by omega) hq) ?_
          refine wG rfl rfl (g_and rfl (.mk rfl rfl) (.mk rfl rfl) hr) ?_
          refine wG rfl rfl (g_eq rfl (.mk rfl rfl) (.mk rfl rfl) (decide_eq_true (by omega))) ?_
          refine wG rfl rfl (g_move rfl (.mk (v := .bool _) rfl rfl)) ?_
          refine WL.wantG rfl rfl rfl rfl (WL1.give rfl (g_move rfl (.mk (v := .int _ _) rfl rfl)) ?_)
          refine WL.wantG rfl rfl rfl rfl (WL1.give rfl (g_lt rfl (.mk rfl rfl) (.mk rfl rfl) (decide_eq_false (by omega))) ?_)
          refine wG rfl rfl (g_pickT rfl (.mk rfl rfl) (.mk (v := .bool _) rfl rfl)) ?_
          refine wG rfl rfl (g_indexAddr (sz := 1) rfl (.mk rfl rfl) (.mk rfl rfl) rfl rfl rfl (by omega) (fun _ _ => rfl)) ?_
          refine WL.want rfl (WL1.storeV1 rfl rfl (.mk rfl rfl) (.mk (v := .bool _) rfl rfl) rfl rfl (by first | omega | (simp; done) | (simp; omega)) (.head) ?_)
          refine WL.nil ?_
          (refine hK _ _ ?_; clear hK)
          refine WC.region rfl ?_
          refine wG rfl rfl (g_move rfl (.mk (v := .int _ _) rfl rfl)) ?_
          refine wG rfl rfl (g_move rfl (.mk (v := .slice _ _ _) rfl rfl)) ?_
          refine wG rfl rfl (g_move rfl (.mk (v := .int _ _) rfl rfl)) ?_
          refine wG rfl rfl (g_indexAddr (sz := 1) rfl (.mk rfl rfl) (.mk rfl rfl) rfl rfl rfl (by omega) (fun _ _ => rfl)) ?_
          refine wG rfl rfl (g_load rfl (.mk rfl rfl) rfl (rd_vec (by repeat (first | exact .head _ | apply List.Mem.tail)) g1)) ?_
          refine WL.want rfl (WL1.callP rfl rfl rfl (.cons (.mk (v := .bool _) rfl rfl) .nil) (fun w hw => bit0 w) ?_)
          refine wG rfl rfl (g_add rfl (.mk rfl rfl) (.mk rfl rfl) ha0) ?_
          refine wG rfl rfl (g_assign rfl (.mk (v := .int _ _) rfl rfl)) ?_
          refine WL.nil ?_
          (refine hK _ _ ?_; clear hK)
          refine WC.region rfl ?_
          refine wG rfl rfl (g_add rfl (.mk rfl rfl) (.mk rfl rfl) (IntWalk.i64_in _ (by omega))) ?_
          refine wG rfl rfl (g_move rfl (.mk (v := .int _ _) rfl rfl)) ?_
          refine WL.nil ?_
          exact ⟨i + 1, bs.set i false, n, (by repeat (first | exact trivial | refine ⟨rfl, ?_⟩)), by rw [← hst]; exact Imp.pick (by repeat (first | exact .head | apply Take.tail)) (Imp.pick (by repeat (first | exact .head | apply Take.tail)) (Imp.pick (by repeat (first | exact .head | apply Take.tail)) (Imp.nil _))), ⟨by omega, by rw [hsl]; exact hbl, by rw [hm1, hn]; rfl, by omega⟩, by omega⟩
      · have hst := hset false
        have g1 := hgt false
        have hm1 := hmk false
        rw [← hst] at g1
        refine WC.seq fun K hK => ?_
        refine WC.region rfl ?_
        refine wG rfl rfl (g_lt rfl (.mk rfl rfl) (.mk rfl rfl) (decide_eq_true (by omega))) ?_
        refine WL.nil ?_
        (refine hK _ _ ?_; clear hK)
        refine WC.seq fun K hK => ?_
        refine WC.cond_true (.mk rfl rfl) ?_
        refine WC.skip ?_
        (refine hK _ _ ?_; clear hK)
        refine WC.seq fun K hK => ?_
        refine WC.block ?_
        refine WC.seq fun K hK => ?_
        refine WC.region rfl ?_
        refine wG rfl rfl (g_move rfl (.mk (v := .int _ _) rfl rfl)) ?_
        refine wG rfl rfl (g_assign rfl (.mk (v := .int _ _) rfl rfl)) ?_
        refine WL.nil ?_
        (refine hK _ _ ?_; clear hK)
        refine WC.seq fun K hK => ?_
        refine WC.region rfl ?_
        refine wG rfl rfl (g_move rfl (.mk (v := .slice _ _ _) rfl rfl)) ?_
        refine wG rfl rfl (g_move rfl (.mk (v := .int _ _) rfl rfl)) ?_
        refine wG rfl rfl (g_move rfl (.mk (v := .int _ _) rfl rfl)) ?_
        refine wG rfl rfl (g_move rfl (.mk (v := .int _ _) rfl rfl)) ?_
        refine wG rfl rfl (g_shr rfl (.mk rfl rfl) (.mk rfl rfl) (by omega) hq) ?_
        refine wG rfl rfl (g_and rfl (.mk rfl rfl) (.mk rfl rfl) hr) ?_
        refine wG rfl rfl (g_eq rfl (.mk rfl rfl) (.mk rfl rfl) (decide_eq_false (by omega))) ?_
        refine wG rfl rfl (g_move rfl (.mk (v := .bool _) rfl rfl)) ?_
        refine WL.skipG rfl rfl rfl rfl rfl rfl ?_
        refine WL.skipG rfl rfl rfl rfl rfl rfl ?_
        refine wG rfl rfl (g_pickF rfl (.mk rfl rfl) (.mk (v := .bool _) rfl rfl)) ?_
        refine wG rfl rfl (g_indexAddr (sz := 1) rfl (.mk rfl rfl) (.mk rfl rfl) rfl rfl rfl (by omega) (fun _ _ => rfl)) ?_
        refine WL.want rfl (WL1.storeV1 rfl rfl (.mk rfl rfl) (.mk (v := .bool _) rfl rfl) rfl rfl (by first | omega | (simp; done) | (simp; omega)) (.head) ?_)
        refine WL.nil ?_
        (refine hK _ _ ?_; clear hK)
        refine WC.region rfl ?_
        refine wG rfl rfl (g_move rfl (.mk (v := .int _ _) rfl rfl)) ?_
        refine wG rfl rfl (g_move rfl (.mk (v := .slice _ _ _) rfl rfl)) ?_
        refine wG rfl rfl (g_move rfl (.mk (v := .int _ _) rfl rfl)) ?_
        refine wG rfl rfl (g_indexAddr (sz := 1) rfl (.mk rfl rfl) (.mk rfl rfl) rfl rfl rfl (by omega) (fun _ _ => rfl)) ?_
        refine wG rfl rfl (g_load rfl (.mk rfl rfl) rfl (rd_vec (by repeat (first | exact .head _ | apply List.Mem.tail)) g1)) ?_
        refine WL.want rfl (WL1.callP rfl rfl rfl (.cons (.mk (v := .bool _) rfl rfl) .nil) (fun w hw => bit0 w) ?_)
        refine wG rfl rfl (g_add rfl (.mk rfl rfl) (.mk rfl rfl) ha0) ?_
        refine wG rfl rfl (g_assign rfl (.mk (v := .int _ _) rfl rfl)) ?_
        refine WL.nil ?_
        (refine hK _ _ ?_; clear hK)
        refine WC.region rfl ?_
        refine wG rfl rfl (g_add rfl (.mk rfl rfl) (.mk rfl rfl) (IntWalk.i64_in _ (by omega))) ?_
        refine wG rfl rfl (g_move rfl (.mk (v := .int _ _) rfl rfl)) ?_
        refine WL.nil ?_
        exact ⟨i + 1, bs.set i false, n, (by repeat (first | exact trivial | refine ⟨rfl, ?_⟩)), by rw [← hst]; exact Imp.pick (by repeat (first | exact .head | apply Take.tail)) (Imp.pick (by repeat (first | exact .head | apply Take.tail)) (Imp.pick (by repeat (first | exact .head | apply Take.tail)) (Imp.nil _))), ⟨by omega, by rw [hsl]; exact hbl, by rw [hm1, hn]; rfl, by omega⟩, by omega⟩
    · obtain rfl : i = N + 3 := by omega
      rw [hn] at hn3
      have hrd := fun w' A B c d h h' => hrd w' bs A B c d hbl hn3 h h'
      obtain ⟨hf1, hf2⟩ := hfin bs hn3
      have hcomp := fun w' A B D c d e O hO h1 h2 h4 => hcomp w' bs A B D c d e _ O hbl hn3 rfl hO (by omega) h1 h2 h4
      obtain ⟨R, hR⟩ : ∃ R, R = refL N (ints T) bs := ⟨_, rfl⟩
      rw [← hR] at hrd hf1 hf2 hcomp
      clear hR hfin
      refine WC.seq fun K hK => ?_
      refine WC.region rfl ?_
      refine wG rfl rfl (g_lt rfl (.mk rfl rfl) (.mk rfl rfl) (decide_eq_false (by omega))) ?_
      refine WL.nil ?_
      (refine hK _ _ ?_; clear hK)
      refine WC.seq fun K hK => ?_
      refine WC.cond_false (.mk rfl rfl) ?_
      refine WC.exit ?_
      (clear hK; refine hK _ _ ?_; clear hK)
      refine WC.seq fun K hK => ?_
      refine WC.region rfl ?_
      refine wG rfl rfl (g_move rfl (.mk (v := .slice _ _ _) rfl rfl)) ?_
      refine wG rfl rfl (g_len rfl (.mk rfl rfl) rfl) ?_
      refine wG rfl rfl (g_move rfl (.mk (v := .slice _ _ _) rfl rfl)) ?_
      refine wG rfl rfl (g_len rfl (.mk rfl rfl) rfl) ?_
      refine wG rfl rfl (g_move rfl (.mk (v := .slice _ _ _) rfl rfl)) ?_
      (refine WL.want rfl (WL1.callN rfl rfl rfl (.cons (.mk (v := .int _ _) rfl rfl) (.cons (.mk (v := .slice _ _ _) rfl rfl) .nil)) (fun w hw => htc w hw.1) ?_); rintro _ _ ⟨At, ct, rfl, rfl⟩)
      refine wG rfl rfl (g_move rfl (.mk (v := .slice _ _ _) rfl rfl)) ?_
      (refine WL.want rfl (WL1.callN rfl rfl rfl (.cons (.mk (v := .int _ _) rfl rfl) (.cons (.mk (v := .slice _ _ _) rfl rfl) (.cons (.mk (v := .slice _ _ _) rfl rfl) .nil))) (fun w hw => hrd w _ _ _ _ (Sl.of_vec hw (.head _)) (Sl.of_vec hw (by repeat (first | exact .head _ | apply List.Mem.tail)))) ?_); rintro _ _ ⟨Ar, cr, rfl, rfl⟩)
      refine wG rfl rfl (g_move rfl (.mk (v := .tuple _) rfl rfl)) ?_
      refine wG rfl rfl (g_extract rfl (.mk rfl rfl) rfl) ?_
      refine wG rfl rfl (g_extract rfl (.mk rfl rfl) rfl) ?_
      refine wG rfl rfl (g_assign rfl (.mk (v := .slice _ _ _) rfl rfl)) ?_
      refine wG rfl rfl (g_assign rfl (.mk (v := .int _ _) rfl rfl)) ?_
      refine WL.nil ?_
      (refine hK _ _ ?_; clear hK)
      refine WC.seq fun K hK => ?_
      refine WC.seq fun K hK => ?_
      refine WC.region rfl ?_
      refine wG rfl rfl (g_move rfl (.mk (v := .int _ _) rfl rfl)) ?_
      refine wG rfl rfl (g_ne rfl (.mk rfl rfl) (.mk rfl rfl) (decide_eq_false (by omega))) ?_
      refine WL.nil ?_
      (refine hK _ _ ?_; clear hK)
      refine WC.cond_false (.mk rfl rfl) ?_
      refine WC.skip ?_
      (refine hK _ _ ?_; clear hK)
      refine WC.seq fun K hK => ?_
      refine WC.region rfl ?_
      refine wG rfl rfl (g_assign rfl (.mk (v := .slice _ _ _) rfl rfl)) ?_
      refine WL.nil ?_
      (refine hK _ _ ?_; clear hK)
      refine WC.seq fun K hK => ?_
      refine WC.seq fun K hK => ?_
      refine WC.region rfl ?_
      refine wG rfl rfl (g_move rfl (.mk (v := .slice _ _ _) rfl rfl)) ?_
      refine wG rfl rfl (g_len rfl (.mk rfl rfl) rfl) ?_
      refine wG rfl rfl (g_move rfl (.mk (v := .int _ _) rfl rfl)) ?_
      refine WL.nil ?_
      (refine hK _ _ ?_; clear hK)
      refine WC.block ?_
      refine WC.nilvec 38 8 ?_
      
      clear hrd htc hwh hap
      refine WC.loopF3 (fun (i : Nat) (F : Option Addr) (fc : Nat) => [(96, iv i), (95, iv R.length), (94, .slice Ar R.length cr), (17, .slice F i fc), (15, .slice Ar R.length cr), (12, .slice (some ⟨b55, 0, none⟩) (N + 3) (N + 3)), (7, .slice Ap (N + 3) cp), (9, .slice Aw (N + 3) cw), (1, .slice D l.length d)]) (fun i F fc => [vec F i fc 38 8 (kvs ((R.map (nth ps)).take i)), vec Ar R.length cr 3 1 (ldv R), vec (some ⟨b55, 0, none⟩) (N + 3) (N + 3) 4 1 (bls bs), vec Aw (N + 3) cw 38 8 (kvs qs), vec Ap (N + 3) cp 38 8 (kvs ps)]) (fun i _ _ => i ≤ R.length) (fun i _ _ => R.length - i) 0 none 0 (by repeat (first | exact trivial | refine ⟨rfl, ?_⟩)) (Imp.pick (A := vec none 0 0 38 8 []) (by repeat (first | exact .head | apply Take.tail)) (Imp.pick (by repeat (first | exact .head | apply Take.tail)) (Imp.pick (by repeat (first | exact .head | apply Take.tail)) (Imp.pick (by repeat (first | exact .head | apply Take.tail)) (Imp.pick (by repeat (first | exact .head | apply Take.tail)) (Imp.nil _)))))) (by omega) ?_
      intro i F fc U2 hi2
      have hOl : (R.map (nth ps)).length = R.length := List.length_map ..
      by_cases hlt2 : i < R.length
      · have hgv := ldv_get (ld := R) (k := i) hlt2
        obtain ⟨q1, q2⟩ := hf1 i hlt2
        have hOi : nth (R.map (nth ps)) i = nth ps (nth R i) := nth_map' _ hlt2
        have hnx : kvs ((R.map (nth ps)).take i) ++ (nth ps (nth R i)).cells = kvs ((R.map (nth ps)).take (i + 1)) := by
          rw [take_snoc (by omega), hOi]; unfold kvs; rw [List.flatMap_append]; simp
        obtain ⟨z, hz⟩ : ∃ z, z = nth R i := ⟨_, rfl⟩
        rw [← hz] at hgv q1 q2 hnx
        have gm : (bls bs)[z * 1]? = some (.bool false) := by rw [bls_get (by omega), q2]
        have gp : ∀ t u, (nth ps z).cells[t]? = some u → (kvs ps)[z * 8 + t]? = some u := fun t u h => flat_row blk8 (by omega) t u h
        obtain ⟨y, hy⟩ : ∃ y, y = nth ps z := ⟨_, rfl⟩
        rw [← hy] at hnx gp
        clear hy hz hOi hres hcomp hrok hfr hmade hf1
        refine WC.seq fun K hK => ?_
        refine WC.region rfl ?_
        refine wG rfl rfl (g_lt rfl (.mk rfl rfl) (.mk rfl rfl) (decide_eq_true (by omega))) ?_
        refine WL.nil ?_
        (refine hK _ _ ?_; clear hK)
        refine WC.seq fun K hK => ?_
        refine WC.cond_true (.mk rfl rfl) ?_
        refine WC.skip ?_
        (refine hK _ _ ?_; clear hK)
        refine WC.seq fun K hK => ?_
        refine WC.block ?_
        refine WC.seq fun K hK => ?_
        refine WC.region rfl ?_
        refine wG rfl rfl (g_indexAddr (sz := 1) rfl (.mk rfl rfl) (.mk rfl rfl) rfl rfl rfl (by omega) (fun w hw => vec_some hw (.tail _ (.head _)) (by omega))) ?_
        refine wG rfl rfl (g_load rfl (.mk rfl rfl) rfl (rd_vec (by repeat (first | exact .head _ | apply List.Mem.tail)) hgv)) ?_
        refine wG rfl rfl (g_assign rfl (.mk (v := .int _ _) rfl rfl)) ?_
        refine WL.nil ?_
        (refine hK _ _ ?_; clear hK)
        refine WC.seq fun K hK => ?_
        refine WC.seq fun K hK => ?_
        refine WC.region rfl ?_
        refine wG rfl rfl (g_move rfl (.mk (v := .int _ _) rfl rfl)) ?_
        refine wG rfl rfl (g_lt rfl (.mk rfl rfl) (.mk rfl rfl) (decide_eq_false (by omega))) ?_
        refine wG rfl rfl (g_move rfl (.mk (v := .bool _) rfl rfl)) ?_
        refine WL.wantG rfl rfl rfl rfl (WL1.give rfl (g_move rfl (.mk (v := .int _ _) rfl rfl)) ?_)
        refine WL.wantG rfl rfl rfl rfl (WL1.give rfl (g_move rfl (.mk (v := .slice _ _ _) rfl rfl)) ?_)
        refine WL.wantG rfl rfl rfl rfl (WL1.give rfl (g_len rfl (.mk rfl rfl) rfl) ?_)
        refine WL.wantG rfl rfl rfl rfl (WL1.give rfl (g_ge rfl (.mk rfl rfl) (.mk rfl rfl) (decide_eq_false (by omega))) ?_)
        refine wG rfl rfl (g_pickF rfl (.mk rfl rfl) (.mk (v := .bool _) rfl rfl)) ?_
        refine wG rfl rfl (g_move rfl (.mk (v := .bool _) rfl rfl)) ?_
        refine WL.wantG rfl rfl rfl rfl (WL1.give rfl (g_move rfl (.mk (v := .slice _ _ _) rfl rfl)) ?_)
        refine WL.wantG rfl rfl rfl rfl (WL1.give rfl (g_move rfl (.mk (v := .int _ _) rfl rfl)) ?_)
        refine WL.wantG rfl rfl rfl rfl (WL1.give rfl (g_indexAddr (sz := 1) rfl (.mk rfl rfl) (.mk rfl rfl) rfl rfl rfl (by omega) (fun _ _ => rfl)) ?_)
        refine WL.wantG rfl rfl rfl rfl (WL1.give rfl (g_load rfl (.mk rfl rfl) rfl (rd_vec (by repeat (first | exact .head _ | apply List.Mem.tail)) gm)) ?_)
        refine wG rfl rfl (g_pickF rfl (.mk rfl rfl) (.mk (v := .bool _) rfl rfl)) ?_
        refine WL.nil ?_
        (refine hK _ _ ?_; clear hK)
        refine WC.cond_false (.mk rfl rfl) ?_
        refine WC.skip ?_
        (refine hK _ _ ?_; clear hK)
        refine WC.region rfl ?_
        refine wG rfl rfl (g_move rfl (.mk (v := .slice _ _ _) rfl rfl)) ?_
        refine wG rfl rfl (g_move rfl (.mk (v := .slice _ _ _) rfl rfl)) ?_
        refine wG rfl rfl (g_move rfl (.mk (v := .int _ _) rfl rfl)) ?_
        refine wG rfl rfl (g_indexAddr (sz := 8) rfl (.mk rfl rfl) (.mk rfl rfl) rfl rfl rfl (by omega) (fun w hw => vec_some hw (.tail _ (.tail _ (.tail _ (.tail _ (.head _))))) (by omega))) ?_
        refine wG rfl rfl (g_loadA rfl (.mk rfl rfl) rfl (sz8 _) (rdr_vec (cs := y.cells) (by repeat (first | exact .head _ | apply List.Mem.tail)) (by omega) gp)) ?_
        refine WL.want rfl (WL1.lit elK rfl rfl rfl (.cons (.mk (v := .agg _) rfl rfl) .nil) rfl (by intro v hv; rw [List.mem_singleton] at hv; subst hv; show (Blk.cells _).toArray.size = 8; rw [List.size_toArray, Blk.len]) (List.append_nil _) rfl (fun b119 => ?_))
        refine WL.want rfl (WL1.append elK rfl rfl (.mk rfl rfl) (.mk rfl rfl) (.tail (.head)) (fun w hw => Sl.of_vec hw (.head _)) y.one (by unfold maxLen; omega) (by omega) (fun A120 c120 => ?_))
        refine wG rfl rfl (g_assign rfl (.mk (v := .slice _ _ _) rfl rfl)) ?_
        refine WL.nil ?_
        (refine hK _ _ ?_; clear hK)
        refine WC.region rfl ?_
        refine wG rfl rfl (g_add rfl (.mk rfl rfl) (.mk rfl rfl) (IntWalk.i64_in _ (by omega))) ?_
        refine wG rfl rfl (g_move rfl (.mk (v := .int _ _) rfl rfl)) ?_
        refine WL.nil ?_
        exact ⟨i + 1, A120, c120, (by repeat (first | exact trivial | refine ⟨rfl, ?_⟩)), by rw [← hnx]; exact Imp.pick (by repeat (first | exact .head | apply Take.tail)) (Imp.pick (by repeat (first | exact .head | apply Take.tail)) (Imp.pick (by repeat (first | exact .head | apply Take.tail)) (Imp.pick (by repeat (first | exact .head | apply Take.tail)) (Imp.pick (by repeat (first | exact .head | apply Take.tail)) (Imp.nil _))))), by omega, by omega⟩
      · obtain rfl : i = R.length := by omega
        rw [List.take_of_length_le (by omega)]
        obtain ⟨O, hO⟩ : ∃ O, O = R.map (nth ps) := ⟨_, rfl⟩
        rw [← hO]
        have hcomp := fun w' A B D c d e => hcomp w' A B D c d e O hO
        have hhd : [] ++ kvs ps = kvs (datP ps rs 0) := rfl
        have hz0 : 0 + (N + 3) = N + 3 := by omega
        refine WC.seq fun K hK => ?_
        refine WC.region rfl ?_
        refine wG rfl rfl (g_lt rfl (.mk rfl rfl) (.mk rfl rfl) (decide_eq_false (by omega))) ?_
        refine WL.nil ?_
        (refine hK _ _ ?_; clear hK)
        refine WC.seq fun K hK => ?_
        refine WC.cond_false (.mk rfl rfl) ?_
        refine WC.exit ?_
        (clear hK; refine hK _ _ ?_; clear hK)
        refine WC.seq fun K hK => ?_
        refine WC.region rfl ?_
        refine wG rfl rfl (g_move rfl (.mk (v := .slice _ _ _) rfl rfl)) ?_
        refine wG rfl rfl (g_len rfl (.mk rfl rfl) rfl) ?_
        refine wG rfl rfl (g_move rfl (.mk (v := .slice _ _ _) rfl rfl)) ?_
        refine wG rfl rfl (g_move rfl (.mk (v := .slice _ _ _) rfl rfl)) ?_
        refine wG rfl rfl (g_move rfl (.mk (v := .slice _ _ _) rfl rfl)) ?_
        (refine WL.want rfl (WL1.callN rfl rfl rfl (.cons (.mk (v := .slice _ _ _) rfl rfl) .nil) (fun w hw => hfr w hw.1) ?_); rintro _ _ ⟨Af, cf, rfl, rfl⟩)
        (refine WL.want rfl (WL1.callN rfl rfl rfl (.cons (.mk (v := .int _ _) rfl rfl) (.cons (.mk (v := .slice _ _ _) rfl rfl) (.cons (.mk (v := .slice _ _ _) rfl rfl) (.cons (.mk (v := .slice _ _ _) rfl rfl) .nil)))) (fun w hw => hcomp w _ _ _ _ _ _ (Sl.of_vec hw (by repeat (first | exact .head _ | apply List.Mem.tail))) (Sl.of_vec hw (by repeat (first | exact .head _ | apply List.Mem.tail))) (Sl.of_vec hw (.head _))) ?_); rintro _ _ ⟨Ag, cg, rfl, rfl⟩)
        refine wG rfl rfl (g_move rfl (.mk (v := .tuple _) rfl rfl)) ?_
        refine wG rfl rfl (g_extract rfl (.mk rfl rfl) rfl) ?_
        refine wG rfl rfl (g_extract rfl (.mk rfl rfl) rfl) ?_
        refine wG rfl rfl (g_assign rfl (.mk (v := .slice _ _ _) rfl rfl)) ?_
        refine wG rfl rfl (g_assign rfl (.mk (v := .int _ _) rfl rfl)) ?_
        refine WL.nil ?_
        (refine hK _ _ ?_; clear hK)
        refine WC.seq fun K hK => ?_
        refine WC.seq fun K hK => ?_
        refine WC.region rfl ?_
        refine wG rfl rfl (g_move rfl (.mk (v := .int _ _) rfl rfl)) ?_
        refine wG rfl rfl (g_ne rfl (.mk rfl rfl) (.mk rfl rfl) (decide_eq_false (by omega))) ?_
        refine WL.nil ?_
        (refine hK _ _ ?_; clear hK)
        refine WC.cond_false (.mk rfl rfl) ?_
        refine WC.skip ?_
        (refine hK _ _ ?_; clear hK)
        refine WC.seq fun K hK => ?_
        refine WC.region rfl ?_
        refine WL.want rfl (WL1.lit (cs := []) elK rfl rfl rfl .nil rfl (by first | (simp [Value.cells]; done) | fail) rfl rfl (fun b134 => ?_))
        refine wG rfl rfl (g_move rfl (.mk (v := .slice _ _ _) rfl rfl)) ?_
        refine WL.want rfl (WL1.append elK rfl rfl (.mk rfl rfl) (.mk rfl rfl) (.head) (fun w hw => Sl.of_vec hw (.tail _ (.tail _ (.tail _ (.tail _ (.tail _ (.tail _ (.tail _ (.head _))))))))) (kvs_one _) (by unfold maxLen; omega) (by omega) (fun A136 c136 => ?_))
        refine wG rfl rfl (g_assign rfl (.mk (v := .slice _ _ _) rfl rfl)) ?_
        refine WL.nil ?_
        (refine hK _ _ ?_; clear hK)
        refine WC.seq fun K hK => ?_
        refine WC.seq fun K hK => ?_
        refine WC.region rfl ?_
        refine wG rfl rfl (g_move rfl (.mk (v := .slice _ _ _) rfl rfl)) ?_
        refine wG rfl rfl (g_len rfl (.mk rfl rfl) rfl) ?_
        refine wG rfl rfl (g_move rfl (.mk (v := .int _ _) rfl rfl)) ?_
        refine WL.nil ?_
        (refine hK _ _ ?_; clear hK)
        refine WC.block ?_
        rw [hhd, hz0]
        clear hcomp hfr hmade hf1 hO
        refine WC.loopF (fun i : Nat => [(139, iv i), (138, iv ((T.length + 3 : Nat) : Int)), (137, .slice Ag (T.length + 3) cg), (22, .slice A136 (N + 3) c136), (9, .slice Aw (N + 3) cw)]) (fun i => [vec A136 (N + 3) c136 38 8 (kvs (datP ps rs i)), vec Ag (T.length + 3) cg 70 9 (cvs rs), vec Aw (N + 3) cw 38 8 (kvs qs)]) (fun i => i ≤ T.length + 3) (fun i => T.length + 3 - i) 0 (by repeat (first | exact trivial | refine ⟨rfl, ?_⟩)) (Imp.pick (by repeat (first | exact .head | apply Take.tail)) (Imp.pick (by repeat (first | exact .head | apply Take.tail)) (Imp.pick (by repeat (first | exact .head | apply Take.tail)) (Imp.nil _)))) (by omega) ?_
        intro i U3 hi3
        have hdl := datP_len ps rs i
        rw [hgl] at hdl
        have hkl : (kvs (datP ps rs i)).length = (N + 3) * 8 := by rw [kvs_len, hdl]
        by_cases hlt3 : i < T.length + 3
        · have hgd := chg_row (l := rs) (k := i) (by omega)
          obtain ⟨z, hz, hzn⟩ := hrok i hlt3
          have hdn : datP ps rs (i + 1) = (datP ps rs i).set (nth rs i).s.toNat (nth rs i).b := rfl
          obtain ⟨x, hx⟩ : ∃ x, x = nth rs i := ⟨_, rfl⟩
          rw [← hx] at hgd hz hdn
          have g0 : x.cells[0 + (0 + 0)]? = some (iv z) := by rw [← hz]; rfl
          have gb : ∀ j u, x.b.cells[j]? = some u → x.cells[0 + (0 + 1 + j)]? = some u := fun j u h => by rw [show 0 + (0 + 1 + j) = 1 + j from by omega]; exact x.atb j u h
          have hz2 : x.s.toNat = z := by omega
          rw [hz2] at hdn
          have hsp : spl (kvs (datP ps rs i)) (z * 8) x.b.cells = kvs (datP ps rs (i + 1)) := by rw [kvs_put (l := datP ps rs i) (k := z) (b := x.b) (by omega) rfl rfl, hdn]
          have hx8 := Blk.len x.b
          clear hx hdn hres hrok
          refine WC.seq fun K hK => ?_
          refine WC.region rfl ?_
          refine wG rfl rfl (g_lt rfl (.mk rfl rfl) (.mk rfl rfl) (decide_eq_true (by omega))) ?_
          refine WL.nil ?_
          (refine hK _ _ ?_; clear hK)
          refine WC.seq fun K hK => ?_
          refine WC.cond_true (.mk rfl rfl) ?_
          refine WC.skip ?_
          (refine hK _ _ ?_; clear hK)
          refine WC.seq fun K hK => ?_
          refine WC.block ?_
          refine WC.seq fun K hK => ?_
          refine WC.region rfl ?_
          refine wG rfl rfl (g_indexAddr (sz := 9) rfl (.mk rfl rfl) (.mk rfl rfl) rfl rfl rfl (by omega) (fun w hw => vec_some hw (.tail _ (.head _)) (by omega))) ?_
          refine wG rfl rfl (g_loadA rfl (.mk rfl rfl) rfl (sz9 _) (rdr_vec (by repeat (first | exact .head _ | apply List.Mem.tail)) (by omega) hgd)) ?_
          refine WL.want rfl (WL1.alloc rfl rfl rfl rfl (fun b24 => ?_))
          refine WL.want rfl (WL1.storeAll rfl rfl (.mk rfl rfl) (.mk rfl rfl) (sz9 _) (Chg.one _) (by rw [Chg.len]; rfl) .head ?_)
          refine WL.nil ?_
          (refine hK _ _ ?_; clear hK)
          refine WC.seq fun K hK => ?_
          refine WC.seq fun K hK => ?_
          refine WC.region rfl ?_
          refine wG rfl rfl (g_fieldAddr (off := 0) rfl (.mk rfl rfl) rfl (fun _ _ => rfl)) ?_
          refine wG rfl rfl (g_load rfl (.mk rfl rfl) rfl (rd_pt (by repeat (first | exact .head _ | apply List.Mem.tail)) g0)) ?_
          refine wG rfl rfl (g_lt rfl (.mk rfl rfl) (.mk rfl rfl) (decide_eq_false (by omega))) ?_
          refine wG rfl rfl (g_move rfl (.mk (v := .bool _) rfl rfl)) ?_
          refine WL.wantG rfl rfl rfl rfl (WL1.give rfl (g_fieldAddr (off := 0) rfl (.mk rfl rfl) rfl (fun _ _ => rfl)) ?_)
          refine WL.wantG rfl rfl rfl rfl (WL1.give rfl (g_load rfl (.mk rfl rfl) rfl (rd_pt (by repeat (first | exact .head _ | apply List.Mem.tail)) g0)) ?_)
          refine WL.wantG rfl rfl rfl rfl (WL1.give rfl (g_move rfl (.mk (v := .slice _ _ _) rfl rfl)) ?_)
          refine WL.wantG rfl rfl rfl rfl (WL1.give rfl (g_len rfl (.mk rfl rfl) rfl) ?_)
          refine WL.wantG rfl rfl rfl rfl (WL1.give rfl (g_ge rfl (.mk rfl rfl) (.mk rfl rfl) (decide_eq_false (by omega))) ?_)
          refine wG rfl rfl (g_pickF rfl (.mk rfl rfl) (.mk (v := .bool _) rfl rfl)) ?_
          refine WL.nil ?_
          (refine hK _ _ ?_; clear hK)
          refine WC.cond_false (.mk rfl rfl) ?_
          refine WC.skip ?_
          (refine hK _ _ ?_; clear hK)
          refine WC.region rfl ?_
          refine wG rfl rfl (g_move rfl (.mk (v := .slice _ _ _) rfl rfl)) ?_
          refine wG rfl rfl (g_fieldAddr (off := 0) rfl (.mk rfl rfl) rfl (fun _ _ => rfl)) ?_
          refine wG rfl rfl (g_load rfl (.mk rfl rfl) rfl (rd_pt (by repeat (first | exact .head _ | apply List.Mem.tail)) g0)) ?_
          refine wG rfl rfl (g_fieldAddr (off := 1) rfl (.mk rfl rfl) rfl (fun _ _ => rfl)) ?_
          refine wG rfl rfl (g_loadA rfl (.mk rfl rfl) rfl (sz8 _) (rdr_pt (cs := x.b.cells) (by repeat (first | exact .head _ | apply List.Mem.tail)) gb)) ?_
          refine wG rfl rfl (g_indexAddr (sz := 8) rfl (.mk rfl rfl) (.mk rfl rfl) rfl rfl rfl (by omega) (fun w hw => vec_some hw (.tail _ (.head _)) (by omega))) ?_
          refine WL.want rfl (WL1.storeVA rfl rfl (.mk rfl rfl) (.mk rfl rfl) (sz8 _) (Blk.one _) (by first | decide | omega | exact Nat.le_of_ble_eq_true rfl | (simp; done) | (simp; omega) | (rw [Blk.len]; omega)) (by first | omega | (rw [Blk.len]; omega) | (simp; done) | (simp; omega)) (.tail (.head)) ?_)
          refine WL.nil ?_
          (refine hK _ _ ?_; clear hK)
          refine WC.region rfl ?_
          refine wG rfl rfl (g_add rfl (.mk rfl rfl) (.mk rfl rfl) (IntWalk.i64_in _ (by omega))) ?_
          refine wG rfl rfl (g_move rfl (.mk (v := .int _ _) rfl rfl)) ?_
          refine WL.nil ?_
          exact ⟨i + 1, (by repeat (first | exact trivial | refine ⟨rfl, ?_⟩)), by rw [← hsp]; exact Imp.pick (by repeat (first | exact .head | apply Take.tail)) (Imp.pick (by repeat (first | exact .head | apply Take.tail)) (Imp.pick (by repeat (first | exact .head | apply Take.tail)) (Imp.nil _))), by omega, by omega⟩
        · obtain rfl : i = T.length + 3 := by omega
          rw [hres]
          refine WC.seq fun K hK => ?_
          refine WC.region rfl ?_
          refine wG rfl rfl (g_lt rfl (.mk rfl rfl) (.mk rfl rfl) (decide_eq_false (by omega))) ?_
          refine WL.nil ?_
          (refine hK _ _ ?_; clear hK)
          refine WC.seq fun K hK => ?_
          refine WC.cond_false (.mk rfl rfl) ?_
          refine WC.exit ?_
          (clear hK; refine hK _ _ ?_; clear hK)
          refine WC.seq fun K hK => ?_
          refine WC.region rfl ?_
          refine wG rfl rfl (g_move rfl (.mk (v := .slice _ _ _) rfl rfl)) ?_
          refine wG rfl rfl (g_move rfl (.mk (v := .slice _ _ _) rfl rfl)) ?_
          refine WL.want rfl (WL1.callP rfl rfl rfl (.cons (.mk (v := .slice _ _ _) rfl rfl) (.cons (.mk (v := .slice _ _ _) rfl rfl) .nil)) (fun w hw => sameblocks_t (a := qs) (b := qs) (Sl.of_vec hw (.head _)) (Sl.of_vec hw (.tail _ (.tail _ (.head _)))) hql hql rfl) ?_)
          refine wG rfl rfl (g_assign rfl (.mk (v := .bool _) rfl rfl)) ?_
          refine WL.nil ?_
          (refine hK _ _ ?_; clear hK)
          refine WC.ret ?_
          exact fun w' hw' => ⟨rfl, hw'.1⟩

theorem lifted (os : Os) (started : os.Started) (H : Type) (enc : TypeId × Value → H) :
    ReturnsInHanded {} Try.checked os 10 .any (Rows.groupPartialSpec.pre6 enc Try.prog Try.f10 Rows.groupPartialRow.domain false) (Rows.groupPartialSpec.post enc Try.prog Try.f10 false true false false) := by
  refine returnsInHanded_of_change (C := Try.checked) own started (by kernel_rfl) Try.func10
    (ChangeSpec.witness6 (enc := enc) (C := Try.checked) false ⟨#[], #[.slice none 0 0, .slice none 0 0, .int .u16 0], []⟩ 8 (by kernel_rfl) (by kernel_rfl) (by kernel_rfl) (by kernel_rfl)) ?_
  intro W base args ds gs before hval0 hW _ _
  have hval : ∀ (j : Nat) t v, Try.f10.params[j]? = some t → args[j]? = some v → Value.okWide Try.prog W .any base t v := hval0
  have hW' := hW
  obtain ⟨p, q, hA0, hV, rfl, hfz, hnd⟩ := hW
  have hA : DataW.TrodAll enc Try.prog W 0 (fun _ => true) true Try.f10.params.toList args.toList ds p := hA0
  rw [Try.params10] at hA hval
  obtain ⟨v0, vs0, d0, ds0, p0, q0, hargs, rfl, rfl, h0, r0⟩ := trodAll_cons hA
  obtain ⟨v1, vs1, d1, ds1, p1, q1, rfl, rfl, rfl, h1, r1⟩ := trodAll_cons r0
  obtain ⟨v2, vs2, d2, ds2, p2, q2, rfl, rfl, rfl, h2, r2⟩ := trodAll_cons r1
  obtain ⟨rfl, rfl, rfl⟩ := trodAll_nil r2
  obtain rfl : args = #[v0, v1, v2] := by cases args; simp_all
  obtain ⟨p, psl⟩ := open_blks (hval 0 22 v0 rfl rfl) h0
  obtain ⟨l, lsl, lr⟩ := open_changes (hval 1 23 v1 rfl rfl) h1
  obtain ⟨b, rfl, bb⟩ := open_u16 (hval 2 67 v2 rfl rfl) h2
  refine (walk (w := W) v0 p psl v1 l lsl lr b bb).mono fun e W' ⟨he, hb⟩ => ?_
  subst he
  exact ⟨_, rfl, law_post laidOut (by kernel_rfl) rfl rfl Try.underlying4 (fun ds h => by match ds, h with | [_, _, _], _ => rfl) hW' hb⟩

theorem proved : Rows.GroupPartialSaid :=
  OpenClaim.holds_of_wide 10 Try.f10 rfl rfl rfl rfl rfl rfl rfl ⟨rfl, rfl, rfl, rfl, rfl⟩ rfl rfl rfl rfl rfl (by kernel_rfl) Try.func10 (by kernel_rfl)
    (of_decide_eq_true (by kernel_rfl)) (by unfold Func.isWrapper; first | (rw [if_pos (by decide +kernel)]; kernel_rfl) | (rw [if_neg (by decide +kernel)]; exact ⟨rfl, rfl⟩))
    (fun os started H enc _ => lifted os started H enc)
end Go.Proofs.Ytnkbnponpknokaa.LGroupPartial
