/- The walks of the methods at a nil pointer, of the laws' examples and beginnings. No condition. -/
import Derived.Test.YtcdpffndpaldoaaThr3
import Derived.Test.YtcdpffndpaldoaaEng8
namespace Go.Proofs.Ytcdpffndpaldoaa
open Go.RowKit
attribute [local irreducible] Calls
theorem own : ownKnob Try.prog.godebug = none := by kernel_rfl
theorem laidOut : laidOutB Try.prog = true := by kernel_rfl
section
variable {w0 w : World} {L : List Asrt} {b : Nat} {r B l : Int}
set_option maxRecDepth 20000 in
theorem tick_nil (m : Int) : Calls Try.prog 18 #[.pointer none, iv m] w fun e w' => e = .returned (.tuple #[]) ∧ Below w.heap.size w w' := by
  refine calls_wc (args := [.pointer none, iv m]) [] ([]) Try.func18 rfl Try.ntmps18 rfl rfl rfl rfl (H.refl w) ?_
  (refine WC.seq ?_; intro K hK)
  refine WC.region ?_
  refine WL.want rfl (WL1.box rfl rfl (.mk (v := .pointer _) rfl rfl) rfl (fun b2 => ?_))
  refine WL.want rfl (WL1.box rfl rfl (.mk (v := .int _ _) rfl rfl) rfl (fun b3 => ?_))
  refine WL.nil ?_
  (refine hK _ _ ?_; clear hK)
  (refine WC.seq ?_; intro K hK)
  (refine WC.seq ?_; intro K hK)
  refine WC.region ?_
  refine WL.want rfl (WL1.give rfl (g_load rfl (.mk rfl rfl) rfl (rd_pt (.tail _ (.head _)) rfl)) ?_)
  refine WL.want rfl (WL1.give rfl (g_eqNN rfl (.mk rfl rfl) (.mk rfl rfl) rfl) ?_)
  refine WL.want rfl (WL1.give rfl (g_move rfl (.mk (v := .bool _) rfl rfl)) ?_)
  refine WL.skipG rfl rfl rfl rfl rfl rfl ?_
  refine WL.skipG rfl rfl rfl rfl rfl rfl ?_
  refine WL.want rfl (WL1.give rfl (g_pickT rfl (.mk rfl rfl) (.mk (v := .bool _) rfl rfl)) ?_)
  refine WL.want rfl (WL1.give rfl (g_move rfl (.mk (v := .bool _) rfl rfl)) ?_)
  refine WL.skipG rfl rfl rfl rfl rfl rfl ?_
  refine WL.skipG rfl rfl rfl rfl rfl rfl ?_
  refine WL.skipG rfl rfl rfl rfl rfl rfl ?_
  refine WL.skipG rfl rfl rfl rfl rfl rfl ?_
  refine WL.skipG rfl rfl rfl rfl rfl rfl ?_
  refine WL.want rfl (WL1.give rfl (g_pickT rfl (.mk rfl rfl) (.mk (v := .bool _) rfl rfl)) ?_)
  refine WL.nil ?_
  (refine hK _ _ ?_; clear hK)
  refine WC.cond_true (.mk rfl rfl) ?_
  refine WC.ret ?_
  exact fun w' hw' => ⟨rfl, hw'.1⟩
set_option maxRecDepth 20000 in
theorem take_nil (m : Int) : Calls Try.prog 16 #[.pointer none, iv m] w fun e w' => e = .returned (.bool false) ∧ Below w.heap.size w w' := by
  refine calls_wc (args := [.pointer none, iv m]) [4] ([]) Try.func16 rfl Try.ntmps16 rfl rfl rfl rfl (H.refl w) ?_
  (refine WC.seq ?_; intro K hK)
  refine WC.region ?_
  refine WL.want rfl (WL1.box rfl rfl (.mk (v := .int _ _) rfl rfl) rfl (fun b3 => ?_))
  refine WL.want rfl (WL1.give rfl (g_assign rfl (.mk (v := .bool _) rfl rfl)) ?_)
  refine WL.nil ?_
  (refine hK _ _ ?_; clear hK)
  (refine WC.seq ?_; intro K hK)
  (refine WC.seq ?_; intro K hK)
  refine WC.region ?_
  refine WL.want rfl (WL1.give rfl (g_move rfl (.mk (v := .pointer _) rfl rfl)) ?_)
  refine WL.want rfl (WL1.give rfl (g_eqNN rfl (.mk rfl rfl) (.mk rfl rfl) rfl) ?_)
  refine WL.want rfl (WL1.give rfl (g_move rfl (.mk (v := .bool _) rfl rfl)) ?_)
  refine WL.skipG rfl rfl rfl rfl rfl rfl ?_
  refine WL.skipG rfl rfl rfl rfl rfl rfl ?_
  refine WL.want rfl (WL1.give rfl (g_pickT rfl (.mk rfl rfl) (.mk (v := .bool _) rfl rfl)) ?_)
  refine WL.nil ?_
  (refine hK _ _ ?_; clear hK)
  refine WC.cond_true (.mk rfl rfl) ?_
  (refine WC.seq ?_; intro K hK)
  refine WC.region ?_
  refine WL.want rfl (WL1.give rfl (g_assign rfl (.mk (v := .bool _) rfl rfl)) ?_)
  refine WL.nil ?_
  (refine hK _ _ ?_; clear hK)
  refine WC.ret ?_
  exact fun w' hw' => ⟨rfl, hw'.1⟩
set_option maxRecDepth 20000 in
theorem level_nil : Calls Try.prog 13 #[.pointer none] w fun e w' => e = .returned (iv 0) ∧ Below w.heap.size w w' := by
  refine calls_wc (args := [.pointer none]) [2] ([]) Try.func13 rfl Try.ntmps13 rfl rfl rfl rfl (H.refl w) ?_
  (refine WC.seq ?_; intro K hK)
  refine WC.region ?_
  refine WL.want rfl (WL1.give rfl (g_assign rfl (.mk (v := .int _ _) rfl rfl)) ?_)
  refine WL.nil ?_
  (refine hK _ _ ?_; clear hK)
  (refine WC.seq ?_; intro K hK)
  (refine WC.seq ?_; intro K hK)
  refine WC.region ?_
  refine WL.want rfl (WL1.give rfl (g_move rfl (.mk (v := .pointer _) rfl rfl)) ?_)
  refine WL.want rfl (WL1.give rfl (g_eqNN rfl (.mk rfl rfl) (.mk rfl rfl) rfl) ?_)
  refine WL.nil ?_
  (refine hK _ _ ?_; clear hK)
  refine WC.cond_true (.mk rfl rfl) ?_
  (refine WC.seq ?_; intro K hK)
  refine WC.region ?_
  refine WL.want rfl (WL1.give rfl (g_assign rfl (.mk (v := .int _ _) rfl rfl)) ?_)
  refine WL.nil ?_
  (refine hK _ _ ?_; clear hK)
  refine WC.ret ?_
  exact fun w' hw' => ⟨rfl, hw'.1⟩
set_option maxRecDepth 20000 in
theorem wait_nil (m : Int) : Calls Try.prog 19 #[.pointer none, iv m] w fun e w' => e = .returned (.tuple #[iv 0, iv 8]) ∧ Below w.heap.size w w' := by
  refine calls_wc (args := [.pointer none, iv m]) [4, 5] ([]) Try.func19 rfl Try.ntmps19 rfl rfl rfl rfl (H.refl w) ?_
  (refine WC.seq ?_; intro K hK)
  refine WC.region ?_
  refine WL.want rfl (WL1.give rfl (g_assign rfl (.mk (v := .int _ _) rfl rfl)) ?_)
  refine WL.want rfl (WL1.give rfl (g_assign rfl (.mk (v := .int _ _) rfl rfl)) ?_)
  refine WL.nil ?_
  (refine hK _ _ ?_; clear hK)
  (refine WC.seq ?_; intro K hK)
  (refine WC.seq ?_; intro K hK)
  refine WC.region ?_
  refine WL.want rfl (WL1.give rfl (g_move rfl (.mk (v := .pointer _) rfl rfl)) ?_)
  refine WL.want rfl (WL1.give rfl (g_eqNN rfl (.mk rfl rfl) (.mk rfl rfl) rfl) ?_)
  refine WL.nil ?_
  (refine hK _ _ ?_; clear hK)
  refine WC.cond_true (.mk rfl rfl) ?_
  (refine WC.seq ?_; intro K hK)
  refine WC.region ?_
  refine WL.want rfl (WL1.give rfl (g_assign rfl (.mk (v := .int _ _) rfl rfl)) ?_)
  refine WL.want rfl (WL1.give rfl (g_assign rfl (.mk (v := .int _ _) rfl rfl)) ?_)
  refine WL.nil ?_
  (refine hK _ _ ?_; clear hK)
  refine WC.ret ?_
  exact fun w' hw' => ⟨rfl, hw'.1⟩
theorem wait_h (m : Int) (v : Value) (hv : waitV r B l m = v) (hok : BkOk r B l) (hw : H w0 (bkt b r B l :: L) w) : Calls Try.prog 19 #[bp b, iv m] w fun e w' => e = .returned v ∧ Below w.heap.size w w' := by
  rw [← hv]
  exact wait_e m hok (cell_pt hw (.head _) rfl) (cell_pt hw (.head _) rfl) (cell_pt hw (.head _) rfl)
theorem level_h (hw : H w0 (bkt b r B l :: L) w) : Calls Try.prog 13 #[bp b] w fun e w' => e = .returned (iv l) ∧ Below w.heap.size w w' := level_e (cell_pt hw (.head _) rfl)
set_option maxRecDepth 20000 in
theorem awake_e : Calls Try.prog 10 #[] w fun e w' => e = .returned (.bool true) ∧ Below w.heap.size w w' := by
  have T1 : tickV 2 5 (5 - 4) 1 = 3 := by decide
  have T2 : tickV 2 5 (tickV 2 5 (5 - 4) 1) 9 = 5 := by decide
  have O0 : BkOk 2 5 5 := by unfold BkOk; omega
  have O1 : BkOk 2 5 (5 - 4) := by unfold BkOk; omega
  have O2 := tickV_ok O1 1
  refine calls_wc (args := []) [0] [] Try.func10 rfl Try.ntmps10 rfl rfl rfl rfl (H.refl w) ?_
  (refine WC.seq ?_; intro K hK)
  refine WC.region ?_
  refine WL.want rfl (WL1.give rfl (g_assign rfl (.mk (v := .bool _) rfl rfl)) ?_)
  refine WL.nil ?_
  (refine hK _ _ ?_; clear hK)
  (refine WC.seq ?_; intro K hK)
  refine WC.region ?_
  (refine WL.want rfl (WL1.callN rfl rfl rfl (.cons (.mk (v := .int _ _) rfl rfl) (.cons (.mk (v := .int _ _) rfl rfl) .nil)) (fun w hw => new_ok O0) ?_); rintro _ _ ⟨b, rfl, rfl⟩)
  refine WL.want rfl (WL1.give rfl (g_move rfl (.mk (v := .tuple _) rfl rfl)) ?_)
  refine WL.want rfl (WL1.give rfl (g_extract rfl (.mk rfl rfl) rfl) ?_)
  refine WL.want rfl (WL1.give rfl (g_extract rfl (.mk rfl rfl) rfl) ?_)
  refine WL.want rfl (WL1.give rfl (g_assign rfl (.mk (v := cellPtr _ _) rfl rfl)) ?_)
  refine WL.want rfl (WL1.give rfl (g_assign rfl (.mk (v := .int _ _) rfl rfl)) ?_)
  refine WL.nil ?_
  (refine hK _ _ ?_; clear hK)
  (refine WC.seq ?_; intro K hK)
  (refine WC.seq ?_; intro K hK)
  refine WC.region ?_
  refine WL.want rfl (WL1.give rfl (g_move rfl (.mk (v := .int _ _) rfl rfl)) ?_)
  refine WL.want rfl (WL1.give rfl (g_ne rfl (.mk rfl rfl) (.mk rfl rfl) (decide_eq_false (by omega))) ?_)
  refine WL.want rfl (WL1.give rfl (g_move rfl (.mk (v := .bool _) rfl rfl)) ?_)
  refine WL.wantG rfl rfl rfl rfl (WL1.give rfl (g_move rfl (.mk (v := cellPtr _ _) rfl rfl)) ?_)
  refine WL.wantG rfl rfl rfl rfl (WL1.callP rfl rfl rfl (.cons (.mk (v := cellPtr _ _) rfl rfl) .nil) (fun w hw => level_h hw) ?_)
  refine WL.wantG rfl rfl rfl rfl (WL1.give rfl (g_ne rfl (.mk rfl rfl) (.mk rfl rfl) (decide_eq_false (by omega))) ?_)
  refine WL.want rfl (WL1.give rfl (g_pickF rfl (.mk rfl rfl) (.mk (v := .bool _) rfl rfl)) ?_)
  refine WL.want rfl (WL1.give rfl (g_move rfl (.mk (v := .bool _) rfl rfl)) ?_)
  refine WL.wantG rfl rfl rfl rfl (WL1.give rfl (g_move rfl (.mk (v := cellPtr _ _) rfl rfl)) ?_)
  (refine WL.wantG rfl rfl rfl rfl (WL1.callF rfl rfl rfl (.cons (.mk (v := cellPtr _ _) rfl rfl) (.cons (.mk (v := .int _ _) rfl rfl) .nil)) (fun w hw => take_yes 4 O0 (by omega) (by omega) hw) ?_); rintro _ _ ⟨rfl, rfl⟩)
  refine WL.wantG rfl rfl rfl rfl (WL1.give rfl (g_notT rfl (.mk rfl rfl)) ?_)
  refine WL.want rfl (WL1.give rfl (g_pickF rfl (.mk rfl rfl) (.mk (v := .bool _) rfl rfl)) ?_)
  refine WL.want rfl (WL1.give rfl (g_move rfl (.mk (v := .bool _) rfl rfl)) ?_)
  refine WL.wantG rfl rfl rfl rfl (WL1.give rfl (g_move rfl (.mk (v := cellPtr _ _) rfl rfl)) ?_)
  (refine WL.wantG rfl rfl rfl rfl (WL1.callF rfl rfl rfl (.cons (.mk (v := cellPtr _ _) rfl rfl) (.cons (.mk (v := .int _ _) rfl rfl) .nil)) (fun w hw => take_no 2 O1 (by omega) (by omega) hw) ?_); rintro _ _ ⟨rfl, rfl⟩)
  refine WL.want rfl (WL1.give rfl (g_pickF rfl (.mk rfl rfl) (.mk (v := .bool _) rfl rfl)) ?_)
  refine WL.want rfl (WL1.give rfl (g_move rfl (.mk (v := .bool _) rfl rfl)) ?_)
  refine WL.wantG rfl rfl rfl rfl (WL1.give rfl (g_move rfl (.mk (v := cellPtr _ _) rfl rfl)) ?_)
  refine WL.wantG rfl rfl rfl rfl (WL1.callP rfl rfl rfl (.cons (.mk (v := cellPtr _ _) rfl rfl) .nil) (fun w hw => level_h hw) ?_)
  refine WL.wantG rfl rfl rfl rfl (WL1.give rfl (g_ne rfl (.mk rfl rfl) (.mk rfl rfl) (decide_eq_false (by omega))) ?_)
  refine WL.want rfl (WL1.give rfl (g_pickF rfl (.mk rfl rfl) (.mk (v := .bool _) rfl rfl)) ?_)
  refine WL.nil ?_
  (refine hK _ _ ?_; clear hK)
  refine WC.cond_false (.mk rfl rfl) ?_
  refine WC.skip ?_
  (refine hK _ _ ?_; clear hK)
  (refine WC.seq ?_; intro K hK)
  refine WC.region ?_
  refine WL.want rfl (WL1.give rfl (g_move rfl (.mk (v := cellPtr _ _) rfl rfl)) ?_)
  refine WL.want rfl (WL1.callP rfl rfl rfl (.cons (.mk (v := cellPtr _ _) rfl rfl) (.cons (.mk (v := .int _ _) rfl rfl) .nil)) (fun w hw => wait_h 4 (.tuple #[iv 2, iv 0]) (by rfl) O1 hw) ?_)
  refine WL.want rfl (WL1.give rfl (g_move rfl (.mk (v := .tuple _) rfl rfl)) ?_)
  refine WL.want rfl (WL1.give rfl (g_extract rfl (.mk rfl rfl) rfl) ?_)
  refine WL.want rfl (WL1.give rfl (g_extract rfl (.mk rfl rfl) rfl) ?_)
  refine WL.want rfl (WL1.give rfl (g_assign rfl (.mk (v := .int _ _) rfl rfl)) ?_)
  refine WL.want rfl (WL1.give rfl (g_assign rfl (.mk (v := .int _ _) rfl rfl)) ?_)
  refine WL.nil ?_
  (refine hK _ _ ?_; clear hK)
  (refine WC.seq ?_; intro K hK)
  refine WC.region ?_
  refine WL.want rfl (WL1.give rfl (g_move rfl (.mk (v := cellPtr _ _) rfl rfl)) ?_)
  (refine WL.want rfl (WL1.callF rfl rfl rfl (.cons (.mk (v := cellPtr _ _) rfl rfl) (.cons (.mk (v := .int _ _) rfl rfl) .nil)) (fun w hw => tick_e 1 O1 hw) ?_); rintro _ _ ⟨rfl, rfl⟩)
  refine WL.nil ?_
  (refine hK _ _ ?_; clear hK)
  (refine WC.seq ?_; intro K hK)
  refine WC.region ?_
  refine WL.want rfl (WL1.give rfl (g_move rfl (.mk (v := cellPtr _ _) rfl rfl)) ?_)
  refine WL.want rfl (WL1.callP rfl rfl rfl (.cons (.mk (v := cellPtr _ _) rfl rfl) .nil) (fun w hw => level_h hw) ?_)
  refine WL.want rfl (WL1.give rfl (g_assign rfl (.mk (v := .int _ _) rfl rfl)) ?_)
  refine WL.nil ?_
  (refine hK _ _ ?_; clear hK)
  (refine WC.seq ?_; intro K hK)
  refine WC.region ?_
  refine WL.want rfl (WL1.give rfl (g_move rfl (.mk (v := cellPtr _ _) rfl rfl)) ?_)
  (refine WL.want rfl (WL1.callF rfl rfl rfl (.cons (.mk (v := cellPtr _ _) rfl rfl) (.cons (.mk (v := .int _ _) rfl rfl) .nil)) (fun w hw => tick_e 9 O2 hw) ?_); rintro _ _ ⟨rfl, rfl⟩)
  refine WL.nil ?_
  (refine hK _ _ ?_; clear hK)
  (refine WC.seq ?_; intro K hK)
  refine WC.region ?_
  refine WL.want rfl (WL1.give rfl (g_move rfl (.mk (v := .int _ _) rfl rfl)) ?_)
  refine WL.want rfl (WL1.give rfl (g_eq rfl (.mk rfl rfl) (.mk rfl rfl) (decide_eq_true (by omega))) ?_)
  refine WL.want rfl (WL1.give rfl (g_move rfl (.mk (v := .bool _) rfl rfl)) ?_)
  refine WL.wantG rfl rfl rfl rfl (WL1.give rfl (g_move rfl (.mk (v := .int _ _) rfl rfl)) ?_)
  refine WL.wantG rfl rfl rfl rfl (WL1.give rfl (g_eq rfl (.mk rfl rfl) (.mk rfl rfl) (decide_eq_true (by omega))) ?_)
  refine WL.want rfl (WL1.give rfl (g_pickT rfl (.mk rfl rfl) (.mk (v := .bool _) rfl rfl)) ?_)
  refine WL.want rfl (WL1.give rfl (g_move rfl (.mk (v := .bool _) rfl rfl)) ?_)
  refine WL.wantG rfl rfl rfl rfl (WL1.give rfl (g_move rfl (.mk (v := .int _ _) rfl rfl)) ?_)
  refine WL.wantG rfl rfl rfl rfl (WL1.give rfl (g_eq rfl (.mk rfl rfl) (.mk rfl rfl) (decide_eq_true (by omega))) ?_)
  refine WL.want rfl (WL1.give rfl (g_pickT rfl (.mk rfl rfl) (.mk (v := .bool _) rfl rfl)) ?_)
  refine WL.want rfl (WL1.give rfl (g_move rfl (.mk (v := .bool _) rfl rfl)) ?_)
  refine WL.wantG rfl rfl rfl rfl (WL1.give rfl (g_move rfl (.mk (v := cellPtr _ _) rfl rfl)) ?_)
  refine WL.wantG rfl rfl rfl rfl (WL1.callP rfl rfl rfl (.cons (.mk (v := cellPtr _ _) rfl rfl) .nil) (fun w hw => level_h hw) ?_)
  refine WL.wantG rfl rfl rfl rfl (WL1.give rfl (g_eq rfl (.mk rfl rfl) (.mk rfl rfl) (decide_eq_true (by omega))) ?_)
  refine WL.want rfl (WL1.give rfl (g_pickT rfl (.mk rfl rfl) (.mk (v := .bool _) rfl rfl)) ?_)
  refine WL.want rfl (WL1.give rfl (g_assign rfl (.mk (v := .bool _) rfl rfl)) ?_)
  refine WL.nil ?_
  (refine hK _ _ ?_; clear hK)
  refine WC.ret ?_
  exact fun w' hw' => ⟨rfl, hw'.1⟩
set_option maxRecDepth 20000 in
theorem start_ok (hok : BkOk r B B) : Calls Try.prog 14 #[iv r, iv B] w fun e w' => ∃ v M, e = .returned v ∧ H w M w' ∧ ∃ b, v = .tuple #[bp b, rb r B B, .bool true] ∧ M = [bkt b r B B] := by
  refine calls_wcG (args := [iv r, iv B]) [.tmp 4, .cell 5 31, .tmp 6] [] Try.func14 rfl Try.ntmps14 rfl rfl (H.refl w) ?_
  (refine WC.seq ?_; intro K hK)
  refine WC.region ?_
  refine WL.want rfl (WL1.give rfl (g_assign rfl (.mk (v := .pointer _) rfl rfl)) ?_)
  refine WL.want rfl (WL1.alloc rfl rfl rfl rfl (fun b5 => ?_))
  refine WL.want rfl (WL1.give rfl (g_assign rfl (.mk (v := .bool _) rfl rfl)) ?_)
  refine WL.nil ?_
  (refine hK _ _ ?_; clear hK)
  (refine WC.seq ?_; intro K hK)
  refine WC.region ?_
  refine WL.want rfl (WL1.give rfl (g_move rfl (.mk (v := .int _ _) rfl rfl)) ?_)
  refine WL.want rfl (WL1.give rfl (g_move rfl (.mk (v := .int _ _) rfl rfl)) ?_)
  (refine WL.want rfl (WL1.callN rfl rfl rfl (.cons (.mk (v := .int _ _) rfl rfl) (.cons (.mk (v := .int _ _) rfl rfl) .nil)) (fun w hw => new_ok hok) ?_); rintro _ _ ⟨b, rfl, rfl⟩)
  refine WL.want rfl (WL1.give rfl (g_move rfl (.mk (v := .tuple _) rfl rfl)) ?_)
  refine WL.want rfl (WL1.give rfl (g_extract rfl (.mk rfl rfl) rfl) ?_)
  refine WL.want rfl (WL1.give rfl (g_extract rfl (.mk rfl rfl) rfl) ?_)
  refine WL.want rfl (WL1.give rfl (g_assign rfl (.mk (v := cellPtr _ _) rfl rfl)) ?_)
  refine WL.want rfl (WL1.give rfl (g_assign rfl (.mk (v := .int _ _) rfl rfl)) ?_)
  refine WL.nil ?_
  (refine hK _ _ ?_; clear hK)
  (refine WC.seq ?_; intro K hK)
  (refine WC.seq ?_; intro K hK)
  refine WC.region ?_
  refine WL.want rfl (WL1.give rfl (g_move rfl (.mk (v := .int _ _) rfl rfl)) ?_)
  refine WL.want rfl (WL1.give rfl (g_move rfl (.mk (v := .int _ _) rfl rfl)) ?_)
  refine WL.want rfl (WL1.callP rfl rfl rfl (.cons (.mk (v := .int _ _) rfl rfl) (.cons (.mk (v := .int _ _) rfl rfl) .nil)) (fun w hw => valid_yes hok) ?_)
  refine WL.want rfl (WL1.give rfl (g_notT rfl (.mk rfl rfl)) ?_)
  refine WL.nil ?_
  (refine hK _ _ ?_; clear hK)
  refine WC.cond_false (.mk rfl rfl) ?_
  refine WC.skip ?_
  (refine hK _ _ ?_; clear hK)
  (refine WC.seq ?_; intro K hK)
  refine WC.region ?_
  refine WL.want rfl (WL1.give rfl (g_move rfl (.mk (v := cellPtr _ _) rfl rfl)) ?_)
  refine WL.want rfl (WL1.give rfl (g_move rfl (.mk (v := .int _ _) rfl rfl)) ?_)
  refine WL.want rfl (WL1.give rfl (g_move rfl (.mk (v := .int _ _) rfl rfl)) ?_)
  refine WL.want rfl (WL1.give rfl (g_move rfl (.mk (v := .int _ _) rfl rfl)) ?_)
  refine WL.want rfl (WL1.give rfl (g_build (cs := [_, _, _]) rfl rfl rfl rfl (.cons (.mk (v := .int _ _) rfl rfl) (.cons (.mk (v := .int _ _) rfl rfl) (.cons (.mk (v := .int _ _) rfl rfl) .nil))) rfl rfl rfl) ?_)
  refine WL.want rfl (WL1.give rfl (g_move rfl (.mk (v := .int _ _) rfl rfl)) ?_)
  refine WL.want rfl (WL1.give rfl (g_eq rfl (.mk rfl rfl) (.mk rfl rfl) (decide_eq_true (by omega))) ?_)
  refine WL.want rfl (WL1.give rfl (g_move rfl (.mk (v := .bool _) rfl rfl)) ?_)
  refine WL.wantG rfl rfl rfl rfl (WL1.give rfl (g_move rfl (.mk (v := cellPtr _ _) rfl rfl)) ?_)
  refine WL.wantG rfl rfl rfl rfl (WL1.give rfl (g_nePN rfl (.mk rfl rfl) (.mk rfl rfl) rfl (fun _ _ => rfl)) ?_)
  refine WL.want rfl (WL1.give rfl (g_pickT rfl (.mk rfl rfl) (.mk (v := .bool _) rfl rfl)) ?_)
  refine WL.want rfl (WL1.give rfl (g_assign rfl (.mk (v := cellPtr _ _) rfl rfl)) ?_)
  refine WL.want rfl (WL1.storeA rfl rfl (.mk rfl rfl) (.mk rfl rfl) rfl (all1 rfl) (by first | decide | omega | (simp; done) | (simp; omega)) (.tail (.head)) ?_)
  refine WL.want rfl (WL1.give rfl (g_assign rfl (.mk (v := .bool _) rfl rfl)) ?_)
  refine WL.nil ?_
  (refine hK _ _ ?_; clear hK)
  refine WC.ret ?_
  exact ⟨_, .tmp rfl rfl (.cell rfl rfl rfl rfl (.tail _ (.head _)) (.tmp rfl rfl .nil)), fun w' hw' => ⟨_, _, rfl, hw'.sub (.cons_cons _ (List.nil_sublist _)), _, rfl, rfl⟩⟩
set_option maxRecDepth 20000 in
theorem start_bad (h : ¬ BkOk r B B) : Calls Try.prog 14 #[iv r, iv B] w fun e w' => e = .returned (.tuple #[.pointer none, rb 0 0 0, .bool false]) ∧ Below w.heap.size w w' := by
  refine calls_wcG (args := [iv r, iv B]) [.tmp 4, .cell 5 31, .tmp 6] [] Try.func14 rfl Try.ntmps14 rfl rfl (H.refl w) ?_
  (refine WC.seq ?_; intro K hK)
  refine WC.region ?_
  refine WL.want rfl (WL1.give rfl (g_assign rfl (.mk (v := .pointer _) rfl rfl)) ?_)
  refine WL.want rfl (WL1.alloc rfl rfl rfl rfl (fun b5 => ?_))
  refine WL.want rfl (WL1.give rfl (g_assign rfl (.mk (v := .bool _) rfl rfl)) ?_)
  refine WL.nil ?_
  (refine hK _ _ ?_; clear hK)
  (refine WC.seq ?_; intro K hK)
  refine WC.region ?_
  refine WL.want rfl (WL1.give rfl (g_move rfl (.mk (v := .int _ _) rfl rfl)) ?_)
  refine WL.want rfl (WL1.give rfl (g_move rfl (.mk (v := .int _ _) rfl rfl)) ?_)
  refine WL.want rfl (WL1.callP rfl rfl rfl (.cons (.mk (v := .int _ _) rfl rfl) (.cons (.mk (v := .int _ _) rfl rfl) .nil)) (fun w hw => new_bad h) ?_)
  refine WL.want rfl (WL1.give rfl (g_move rfl (.mk (v := .tuple _) rfl rfl)) ?_)
  refine WL.want rfl (WL1.give rfl (g_extract rfl (.mk rfl rfl) rfl) ?_)
  refine WL.want rfl (WL1.give rfl (g_extract rfl (.mk rfl rfl) rfl) ?_)
  refine WL.want rfl (WL1.give rfl (g_assign rfl (.mk (v := .pointer _) rfl rfl)) ?_)
  refine WL.want rfl (WL1.give rfl (g_assign rfl (.mk (v := .int _ _) rfl rfl)) ?_)
  refine WL.nil ?_
  (refine hK _ _ ?_; clear hK)
  (refine WC.seq ?_; intro K hK)
  (refine WC.seq ?_; intro K hK)
  refine WC.region ?_
  refine WL.want rfl (WL1.give rfl (g_move rfl (.mk (v := .int _ _) rfl rfl)) ?_)
  refine WL.want rfl (WL1.give rfl (g_move rfl (.mk (v := .int _ _) rfl rfl)) ?_)
  refine WL.want rfl (WL1.callP rfl rfl rfl (.cons (.mk (v := .int _ _) rfl rfl) (.cons (.mk (v := .int _ _) rfl rfl) .nil)) (fun w hw => valid_no h) ?_)
  refine WL.want rfl (WL1.give rfl (g_notF rfl (.mk rfl rfl)) ?_)
  refine WL.nil ?_
  (refine hK _ _ ?_; clear hK)
  refine WC.cond_true (.mk rfl rfl) ?_
  (refine WC.seq ?_; intro K hK)
  refine WC.region ?_
  refine WL.want rfl (WL1.give rfl (g_build (cs := [_, _, _]) rfl rfl rfl rfl .nil rfl rfl rfl) ?_)
  refine WL.want rfl (WL1.give rfl (g_assign rfl (.mk (v := .pointer _) rfl rfl)) ?_)
  refine WL.want rfl (WL1.storeA rfl rfl (.mk rfl rfl) (.mk rfl rfl) rfl (all1 rfl) (by first | decide | omega | (simp; done) | (simp; omega)) (.head) ?_)
  refine WL.want rfl (WL1.give rfl (g_assign rfl (.mk (v := .bool _) rfl rfl)) ?_)
  refine WL.nil ?_
  (refine hK _ _ ?_; clear hK)
  refine WC.ret ?_
  exact ⟨_, .tmp rfl rfl (.cell rfl rfl rfl rfl (.head _) (.tmp rfl rfl .nil)), fun w' hw' => ⟨rfl, hw'.1⟩⟩
end
end Go.Proofs.Ytcdpffndpaldoaa
