/- The chapter's examples, walked. No condition. -/
import Derived.Test.YtlkemgefioiffaaMat10
import Derived.Test.YtlkemgefioiffaaInd2
namespace Go.Proofs.Ytlkemgefioiffaa
open Go.RowKit
attribute [local irreducible] Calls
def gn (n : Nat) (h : n < 256 := by omega) : G := ⟨n, h⟩
theorem rank_k {va : Value} {ra : List Row} {n : Int} {w : World} (ha : MatAt w va ra) (hg : Good (els ra)) (hn : ((indep (els ra)).length : Int) = n) : Calls Try.prog 24 #[va] w fun e w' => e = .returned (.tuple #[iv n, iv 0]) ∧ Below w.heap.size w w' := by
  have := rank_e va ra w ha hg; rwa [hn] at this
theorem left_k {va : Value} {ra : List Row} {v : List (List G)} {w : World} {sel : List Nat} {n : Nat} (ha : MatAt w va ra) (hg : Good (els ra)) (hse : indep (els ra) = sel) (hl : sel.length = n) (hr : n = (nth ra 0).l.length) (hv : invM (rowsM (els ra) sel) = some v) :
    Calls Try.prog 19 #[va] w fun e w' => ∃ v' M, e = .returned v' ∧ H w M w' ∧ ∃ A cc rs Ai ci, v' = .tuple #[.slice A rs.length cc, .slice Ai n ci, iv 0] ∧ M = matM A cc rs ++ [vec Ai n ci 3 1 (ldv sel)] ∧ els rs = v ∧ rs.length = n := by
  subst hl; subst hse
  obtain ⟨g1, g2, g3, g4⟩ := hg.parts
  have h : ∀ i, i < (els ra).length → (nth (els ra) i).length = (nth ra 0).l.length := fun i hi => by rw [els_len] at hi; rw [els_at hi]; exact hg.row hi
  exact leftInverse_n va ra v w ha hg (fun k hk => by have := indep_lt h k hk; rwa [els_len] at this) hr hv
theorem g_inv : invM [[1, 1], [1, gn 2]] = some [[gn 245, gn 244], [gn 244, gn 244]] := by decide +kernel
theorem g_ind : indep [[1, 1], [gn 2, gn 2], [0, gn 3]] = [0, 2] := by decide +kernel
theorem g_left : invM (rowsM [[1, 1], [gn 2, gn 2], [0, gn 3]] [0, 2]) = some [[1, gn 244], [0, gn 244]] := by decide +kernel
theorem good1 : Good [[1, 1], [1, gn 2]] := goodB_iff.1 (by decide +kernel)
theorem good2 : Good [[1, 1], [gn 2, gn 2], [0, gn 3]] := goodB_iff.1 (by decide +kernel)
set_option maxRecDepth 20000 in
set_option maxHeartbeats 2000000 in
theorem awake_e (w : World) : Calls Try.prog 11 #[] w fun e w' => e = .returned (.bool true) ∧ Below w.heap.size w w' := by
  refine calls_wc (args := []) [0] [] Try.func11 rfl Try.ntmps11 rfl rfl rfl rfl (H.refl w) ?_
  (refine WC.seq ?_; intro K hK)
  refine WC.region rfl ?_
  refine WL.want rfl (WL1.give rfl (g_assign rfl (.mk (v := .bool _) rfl rfl)) ?_)
  refine WL.nil ?_
  (refine hK _ _ ?_; clear hK)
  (refine WC.seq ?_; intro K hK)
  refine WC.region rfl ?_
  refine WL.want rfl (WL1.lit (cs := [_, _]) elB rfl rfl rfl (.cons (.mk (v := .int _ _) rfl rfl) (.cons (.mk (v := .int _ _) rfl rfl) .nil)) rfl (by first | (simp [Value.cells]; done) | fail) rfl rfl (fun b10 => ?_))
  refine WL.want rfl (WL1.lit (cs := [_, _]) elB rfl rfl rfl (.cons (.mk (v := .int _ _) rfl rfl) (.cons (.mk (v := .int _ _) rfl rfl) .nil)) rfl (by first | (simp [Value.cells]; done) | fail) rfl rfl (fun b11 => ?_))
  refine WL.want rfl (WL1.lit (cs := [_, _]) elR rfl rfl rfl (.cons (.mk (v := .slice _ _ _) rfl rfl) (.cons (.mk (v := .slice _ _ _) rfl rfl) .nil)) rfl (by first | (simp [Value.cells]; done) | fail) rfl rfl (fun b12 => ?_))
  (refine WL.want rfl (WL1.callN rfl rfl rfl (.cons (.mk (v := .slice _ _ _) rfl rfl) .nil) (fun w hw => inverse_n _ [⟨some ⟨b10, 0, none⟩, 2, [1, 1]⟩, ⟨some ⟨b11, 0, none⟩, 2, [1, gn 2]⟩] _ w (MatAt.of_own hw (by repeat (first | exact .head _ | apply List.Mem.tail)) (fun r hr => by simp only [List.mem_cons, List.not_mem_nil, or_false] at hr; rcases hr with rfl | rfl <;> repeat (first | exact .head _ | apply List.Mem.tail))) good1 rfl g_inv) ?_); rintro _ _ ⟨A1, c1, r1, rfl, rfl, hr1, hl1⟩)
  refine WL.want rfl (WL1.give rfl (g_move rfl (.mk (v := .tuple _) rfl rfl)) ?_)
  refine WL.want rfl (WL1.give rfl (g_extract rfl (.mk rfl rfl) rfl) ?_)
  refine WL.want rfl (WL1.give rfl (g_extract rfl (.mk rfl rfl) rfl) ?_)
  refine WL.want rfl (WL1.give rfl (g_assign rfl (.mk (v := .slice _ _ _) rfl rfl)) ?_)
  refine WL.want rfl (WL1.give rfl (g_assign rfl (.mk (v := .int _ _) rfl rfl)) ?_)
  refine WL.nil ?_
  (refine hK _ _ ?_; clear hK)
  (refine WC.seq ?_; intro K hK)
  refine WC.region rfl ?_
  refine WL.want rfl (WL1.lit (cs := [_, _]) elB rfl rfl rfl (.cons (.mk (v := .int _ _) rfl rfl) (.cons (.mk (v := .int _ _) rfl rfl) .nil)) rfl (by first | (simp [Value.cells]; done) | fail) rfl rfl (fun b16 => ?_))
  refine WL.want rfl (WL1.lit (cs := [_, _]) elB rfl rfl rfl (.cons (.mk (v := .int _ _) rfl rfl) (.cons (.mk (v := .int _ _) rfl rfl) .nil)) rfl (by first | (simp [Value.cells]; done) | fail) rfl rfl (fun b17 => ?_))
  refine WL.want rfl (WL1.lit (cs := [_, _]) elB rfl rfl rfl (.cons (.mk (v := .int _ _) rfl rfl) (.cons (.mk (v := .int _ _) rfl rfl) .nil)) rfl (by first | (simp [Value.cells]; done) | fail) rfl rfl (fun b18 => ?_))
  refine WL.want rfl (WL1.lit (cs := [_, _, _]) elR rfl rfl rfl (.cons (.mk (v := .slice _ _ _) rfl rfl) (.cons (.mk (v := .slice _ _ _) rfl rfl) (.cons (.mk (v := .slice _ _ _) rfl rfl) .nil))) rfl (by first | (simp [Value.cells]; done) | fail) rfl rfl (fun b19 => ?_))
  refine WL.want rfl (WL1.give rfl (g_assign rfl (.mk (v := .slice _ _ _) rfl rfl)) ?_)
  refine WL.nil ?_
  (refine hK _ _ ?_; clear hK)
  (refine WC.seq ?_; intro K hK)
  refine WC.region rfl ?_
  refine WL.want rfl (WL1.give rfl (g_move rfl (.mk (v := .slice _ _ _) rfl rfl)) ?_)
  refine WL.want rfl (WL1.callP rfl rfl rfl (.cons (.mk (v := .slice _ _ _) rfl rfl) .nil) (fun w hw => rank_k (ra := [⟨some ⟨b16, 0, none⟩, 2, [1, 1]⟩, ⟨some ⟨b17, 0, none⟩, 2, [gn 2, gn 2]⟩, ⟨some ⟨b18, 0, none⟩, 2, [0, gn 3]⟩]) (n := 2) (MatAt.of_own hw (by repeat (first | exact .head _ | apply List.Mem.tail)) (fun r hr => by simp only [List.mem_cons, List.not_mem_nil, or_false] at hr; rcases hr with rfl | rfl | rfl <;> repeat (first | exact .head _ | apply List.Mem.tail))) good2 (by rw [show els _ = [[1, 1], [gn 2, gn 2], [0, gn 3]] from rfl, g_ind]; rfl)) ?_)
  refine WL.want rfl (WL1.give rfl (g_move rfl (.mk (v := .tuple _) rfl rfl)) ?_)
  refine WL.want rfl (WL1.give rfl (g_extract rfl (.mk rfl rfl) rfl) ?_)
  refine WL.want rfl (WL1.give rfl (g_extract rfl (.mk rfl rfl) rfl) ?_)
  refine WL.want rfl (WL1.give rfl (g_assign rfl (.mk (v := .int _ _) rfl rfl)) ?_)
  refine WL.want rfl (WL1.give rfl (g_assign rfl (.mk (v := .int _ _) rfl rfl)) ?_)
  refine WL.nil ?_
  (refine hK _ _ ?_; clear hK)
  (refine WC.seq ?_; intro K hK)
  refine WC.region rfl ?_
  refine WL.want rfl (WL1.give rfl (g_move rfl (.mk (v := .slice _ _ _) rfl rfl)) ?_)
  (refine WL.want rfl (WL1.callN rfl rfl rfl (.cons (.mk (v := .slice _ _ _) rfl rfl) .nil) (fun w hw => left_k (ra := [⟨some ⟨b16, 0, none⟩, 2, [1, 1]⟩, ⟨some ⟨b17, 0, none⟩, 2, [gn 2, gn 2]⟩, ⟨some ⟨b18, 0, none⟩, 2, [0, gn 3]⟩]) (sel := [0, 2]) (n := 2) (MatAt.of_own hw (by repeat (first | exact .head _ | apply List.Mem.tail)) (fun r hr => by simp only [List.mem_cons, List.not_mem_nil, or_false] at hr; rcases hr with rfl | rfl | rfl <;> repeat (first | exact .head _ | apply List.Mem.tail))) good2 g_ind rfl rfl g_left) ?_); rintro _ _ ⟨A2, c2, r2, Ai, ci, rfl, rfl, hr2, hl2⟩)
  refine WL.want rfl (WL1.give rfl (g_move rfl (.mk (v := .tuple _) rfl rfl)) ?_)
  refine WL.want rfl (WL1.give rfl (g_extract rfl (.mk rfl rfl) rfl) ?_)
  refine WL.want rfl (WL1.give rfl (g_extract rfl (.mk rfl rfl) rfl) ?_)
  refine WL.want rfl (WL1.give rfl (g_extract rfl (.mk rfl rfl) rfl) ?_)
  refine WL.want rfl (WL1.give rfl (g_assign rfl (.mk (v := .slice _ _ _) rfl rfl)) ?_)
  refine WL.want rfl (WL1.give rfl (g_assign rfl (.mk (v := .slice _ _ _) rfl rfl)) ?_)
  refine WL.want rfl (WL1.give rfl (g_assign rfl (.mk (v := .int _ _) rfl rfl)) ?_)
  refine WL.nil ?_
  (refine hK _ _ ?_; clear hK)
  (refine WC.seq ?_; intro K hK)
  refine WC.region rfl ?_
  refine WL.want rfl (WL1.give rfl (g_move rfl (.mk (v := .int _ _) rfl rfl)) ?_)
  refine WL.want rfl (WL1.give rfl (g_eq rfl (.mk rfl rfl) (.mk rfl rfl) (decide_eq_true (by omega))) ?_)
  refine WL.want rfl (WL1.give rfl (g_move rfl (.mk (v := .bool _) rfl rfl)) ?_)
  refine WL.wantG rfl rfl rfl rfl (WL1.give rfl (g_move rfl (.mk (v := .slice _ _ _) rfl rfl)) ?_)
  refine WL.wantG rfl rfl rfl rfl (WL1.lit (cs := [_, _]) elB rfl rfl rfl (.cons (.mk (v := .int _ _) rfl rfl) (.cons (.mk (v := .int _ _) rfl rfl) .nil)) rfl (by first | (simp [Value.cells]; done) | fail) rfl rfl (fun b35 => ?_))
  refine WL.wantG rfl rfl rfl rfl (WL1.lit (cs := [_, _]) elB rfl rfl rfl (.cons (.mk (v := .int _ _) rfl rfl) (.cons (.mk (v := .int _ _) rfl rfl) .nil)) rfl (by first | (simp [Value.cells]; done) | fail) rfl rfl (fun b36 => ?_))
  refine WL.wantG rfl rfl rfl rfl (WL1.lit (cs := [_, _]) elR rfl rfl rfl (.cons (.mk (v := .slice _ _ _) rfl rfl) (.cons (.mk (v := .slice _ _ _) rfl rfl) .nil)) rfl (by first | (simp [Value.cells]; done) | fail) rfl rfl (fun b37 => ?_))
  refine WL.wantG rfl rfl rfl rfl (WL1.callP rfl rfl rfl (.cons (.mk (v := .slice _ _ _) rfl rfl) (.cons (.mk (v := .slice _ _ _) rfl rfl) .nil)) (fun w hw => msame_t _ _ r1 [⟨some ⟨b35, 0, none⟩, 2, [gn 245, gn 244]⟩, ⟨some ⟨b36, 0, none⟩, 2, [gn 244, gn 244]⟩] w (MatAt.of_rowsA hw (by repeat (first | exact .head _ | apply List.Mem.tail)) (by repeat (first | exact .head _ | apply List.Mem.tail))) (MatAt.of_own hw (by repeat (first | exact .head _ | apply List.Mem.tail)) (fun r hr => by simp only [List.mem_cons, List.not_mem_nil, or_false] at hr; rcases hr with rfl | rfl <;> repeat (first | exact .head _ | apply List.Mem.tail))) hr1) ?_)
  refine WL.want rfl (WL1.give rfl (g_pickT rfl (.mk rfl rfl) (.mk (v := .bool _) rfl rfl)) ?_)
  refine WL.want rfl (WL1.give rfl (g_move rfl (.mk (v := .bool _) rfl rfl)) ?_)
  refine WL.wantG rfl rfl rfl rfl (WL1.give rfl (g_move rfl (.mk (v := .int _ _) rfl rfl)) ?_)
  refine WL.wantG rfl rfl rfl rfl (WL1.give rfl (g_eq rfl (.mk rfl rfl) (.mk rfl rfl) (decide_eq_true (by omega))) ?_)
  refine WL.want rfl (WL1.give rfl (g_pickT rfl (.mk rfl rfl) (.mk (v := .bool _) rfl rfl)) ?_)
  refine WL.want rfl (WL1.give rfl (g_move rfl (.mk (v := .bool _) rfl rfl)) ?_)
  refine WL.wantG rfl rfl rfl rfl (WL1.give rfl (g_move rfl (.mk (v := .int _ _) rfl rfl)) ?_)
  refine WL.wantG rfl rfl rfl rfl (WL1.give rfl (g_eq rfl (.mk rfl rfl) (.mk rfl rfl) (decide_eq_true (by omega))) ?_)
  refine WL.want rfl (WL1.give rfl (g_pickT rfl (.mk rfl rfl) (.mk (v := .bool _) rfl rfl)) ?_)
  refine WL.want rfl (WL1.give rfl (g_move rfl (.mk (v := .bool _) rfl rfl)) ?_)
  refine WL.wantG rfl rfl rfl rfl (WL1.give rfl (g_move rfl (.mk (v := .int _ _) rfl rfl)) ?_)
  refine WL.wantG rfl rfl rfl rfl (WL1.give rfl (g_eq rfl (.mk rfl rfl) (.mk rfl rfl) (decide_eq_true (by omega))) ?_)
  refine WL.want rfl (WL1.give rfl (g_pickT rfl (.mk rfl rfl) (.mk (v := .bool _) rfl rfl)) ?_)
  refine WL.want rfl (WL1.give rfl (g_move rfl (.mk (v := .bool _) rfl rfl)) ?_)
  refine WL.wantG rfl rfl rfl rfl (WL1.give rfl (g_move rfl (.mk (v := .slice _ _ _) rfl rfl)) ?_)
  refine WL.wantG rfl rfl rfl rfl (WL1.lit (cs := [_, _]) elI rfl rfl rfl (.cons (.mk (v := .int _ _) rfl rfl) (.cons (.mk (v := .int _ _) rfl rfl) .nil)) rfl (by first | (simp [Value.cells]; done) | fail) rfl rfl (fun b54 => ?_))
  refine WL.wantG rfl rfl rfl rfl (WL1.callP rfl rfl rfl (.cons (.mk (v := .slice _ _ _) rfl rfl) (.cons (.mk (v := .slice _ _ _) rfl rfl) .nil)) (fun w hw => sameints_t _ _ [0, 2] [0, 2] w (Sl.of_vec hw (by repeat (first | exact .head _ | apply List.Mem.tail))) (Sl.of_vec hw (by repeat (first | exact .head _ | apply List.Mem.tail))) rfl) ?_)
  refine WL.want rfl (WL1.give rfl (g_pickT rfl (.mk rfl rfl) (.mk (v := .bool _) rfl rfl)) ?_)
  refine WL.want rfl (WL1.give rfl (g_move rfl (.mk (v := .bool _) rfl rfl)) ?_)
  refine WL.wantG rfl rfl rfl rfl (WL1.give rfl (g_move rfl (.mk (v := .slice _ _ _) rfl rfl)) ?_)
  refine WL.wantG rfl rfl rfl rfl (WL1.lit (cs := [_, _]) elB rfl rfl rfl (.cons (.mk (v := .int _ _) rfl rfl) (.cons (.mk (v := .int _ _) rfl rfl) .nil)) rfl (by first | (simp [Value.cells]; done) | fail) rfl rfl (fun b59 => ?_))
  refine WL.wantG rfl rfl rfl rfl (WL1.lit (cs := [_, _]) elB rfl rfl rfl (.cons (.mk (v := .int _ _) rfl rfl) (.cons (.mk (v := .int _ _) rfl rfl) .nil)) rfl (by first | (simp [Value.cells]; done) | fail) rfl rfl (fun b60 => ?_))
  refine WL.wantG rfl rfl rfl rfl (WL1.lit (cs := [_, _]) elR rfl rfl rfl (.cons (.mk (v := .slice _ _ _) rfl rfl) (.cons (.mk (v := .slice _ _ _) rfl rfl) .nil)) rfl (by first | (simp [Value.cells]; done) | fail) rfl rfl (fun b61 => ?_))
  refine WL.wantG rfl rfl rfl rfl (WL1.callP rfl rfl rfl (.cons (.mk (v := .slice _ _ _) rfl rfl) (.cons (.mk (v := .slice _ _ _) rfl rfl) .nil)) (fun w hw => msame_t _ _ r2 [⟨some ⟨b59, 0, none⟩, 2, [1, gn 244]⟩, ⟨some ⟨b60, 0, none⟩, 2, [0, gn 244]⟩] w (MatAt.of_rowsA hw (by repeat (first | exact .head _ | apply List.Mem.tail)) (by repeat (first | exact .head _ | apply List.Mem.tail))) (MatAt.of_own hw (by repeat (first | exact .head _ | apply List.Mem.tail)) (fun r hr => by simp only [List.mem_cons, List.not_mem_nil, or_false] at hr; rcases hr with rfl | rfl <;> repeat (first | exact .head _ | apply List.Mem.tail))) hr2) ?_)
  refine WL.want rfl (WL1.give rfl (g_pickT rfl (.mk rfl rfl) (.mk (v := .bool _) rfl rfl)) ?_)
  refine WL.want rfl (WL1.give rfl (g_assign rfl (.mk (v := .bool _) rfl rfl)) ?_)
  refine WL.nil ?_
  (refine hK _ _ ?_; clear hK)
  refine WC.ret ?_
  exact fun w' hw' => ⟨rfl, hw'.1⟩
end Go.Proofs.Ytlkemgefioiffaa
