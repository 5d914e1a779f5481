/- Texts joined: Dec8, Loc, Gg, Gj, Dec5, Dec9, Dec10, OpenD. The parts say what each of them proves. No condition. -/
import Derived.Test.YtlcddlipcdimeaaJo4
namespace Go.Proofs.Ytlcddlipcdimeaa
open Go.RowKit
attribute [local irreducible] Calls
/-- What Locate answers to three syndromes. -/
def locV (n : Nat) (s0 s1 s2 : Blk) : Int × Int :=
  if s0 = 0 ∧ s1 = 0 ∧ s2 = 0 then (0, 9)
  else if s1 = 0 ∧ s2 = 0 then (n, 0)
  else if s0 = 0 ∧ s2 = 0 then ((n + 1 : Nat), 0)
  else if s0 = 0 ∧ s1 = 0 then ((n + 2 : Nat), 0)
  else if s0 = 0 then (0, 12)
  else match fnd (fun i => decide (s1 = gpow 2 i * s0 ∧ s2 = gpow 2 (2 * i) * s0)) n with
    | some i => (i, 0)
    | none => (0, 12)
set_option maxRecDepth 20000 in
set_option maxHeartbeats 4000000 in
theorem locate_n (v : Value) (ps : List Blk) (n : Nat) (w : World) (hv : Sl w 8 v ps.length (kvs ps)) (h1 : 1 ≤ n) (h2 : n ≤ 13) (hpl : ps.length = n + 3) :
    Calls Try.prog 27 #[v] w fun e w' => e = .returned (.tuple #[iv (locV n (nth (synL ps) 0) (nth (synL ps) 1) (nth (synL ps) 2)).1, iv (locV n (nth (synL ps) 0) (nth (synL ps) 1) (nth (synL ps) 2)).2]) ∧ Below w.heap.size w w' := by
  have hsy := fun w' hb => syndromes_n v ps n w' (hv.below (w' := w') hb) h1 h2 hpl
  obtain ⟨A, c, rfl, hc, hm, hs⟩ := hv.open_
  have hsub : IntKind.i64.wrap ((ps.length : Int) - 3) = (n : Int) := by rw [IntWalk.i64_in _ (by omega)]; omega
  have hyl : (synL ps).length = 3 := synP_len ps 3
  obtain ⟨y, hy⟩ : ∃ y, y = synL ps := ⟨_, rfl⟩
  rw [← hy] at hsy hyl ⊢
  obtain ⟨s0, hs0⟩ : ∃ s0, s0 = nth y 0 := ⟨_, rfl⟩
  obtain ⟨s1, hs1⟩ : ∃ s1, s1 = nth y 1 := ⟨_, rfl⟩
  obtain ⟨s2, hs2⟩ : ∃ s2, s2 = nth y 2 := ⟨_, rfl⟩
  have g0 : ∀ j u, s0.cells[j]? = some u → (kvs y)[0 * 8 + j]? = some u := fun j u h => by rw [hs0] at h; exact flat_row blk8 (by omega) j u h
  have g1 : ∀ j u, s1.cells[j]? = some u → (kvs y)[1 * 8 + j]? = some u := fun j u h => by rw [hs1] at h; exact flat_row blk8 (by omega) j u h
  have g2 : ∀ j u, s2.cells[j]? = some u → (kvs y)[2 * 8 + j]? = some u := fun j u h => by rw [hs2] at h; exact flat_row blk8 (by omega) j u h
  have gz : ∀ j u, (0 : Blk).cells[j]? = some u → z8[0 + (0 + j)]? = some u := fun j u h => by rw [Nat.zero_add, Nat.zero_add, z8_zero]; exact h
  have E0 := eqv_blk s0 0
  have E1 := eqv_blk s1 0
  have E2 := eqv_blk s2 0
  rw [← hs0, ← hs1, ← hs2]
  refine calls_wc (args := [.slice A ps.length c]) [2, 3] [] Try.func27 rfl Try.ntmps27 rfl rfl rfl rfl (H.refl w) ?_
  (refine WC.seq ?_; intro K hK)
  refine WC.region rfl ?_
  refine WL.want rfl (WL1.give rfl (g_assign rfl (.mk (v := .int _ _) rfl rfl)) ?_)
  refine WL.want rfl (WL1.give rfl (g_assign rfl (.mk (v := .int _ _) rfl rfl)) ?_)
  refine WL.nil ?_
  (refine hK _ _ ?_; clear hK)
  (refine WC.seq ?_; intro K hK)
  refine WC.region rfl ?_
  refine WL.want rfl (WL1.give rfl (g_move rfl (.mk (v := .slice _ _ _) rfl rfl)) ?_)
  (refine WL.want rfl (WL1.callN rfl rfl rfl (.cons (.mk (v := .slice _ _ _) rfl rfl) .nil) (fun w hw => hsy w hw.1) ?_); rintro _ _ ⟨b, rfl, rfl⟩)
  refine WL.want rfl (WL1.give rfl (g_move rfl (.mk (v := .tuple _) rfl rfl)) ?_)
  refine WL.want rfl (WL1.give rfl (g_extract rfl (.mk rfl rfl) rfl) ?_)
  refine WL.want rfl (WL1.give rfl (g_extract rfl (.mk rfl rfl) rfl) ?_)
  refine WL.want rfl (WL1.give rfl (g_assign rfl (.mk (v := .slice _ _ _) rfl rfl)) ?_)
  refine WL.want rfl (WL1.give rfl (g_assign rfl (.mk (v := .int _ _) rfl rfl)) ?_)
  refine WL.nil ?_
  (refine hK _ _ ?_; clear hK)
  (refine WC.seq ?_; intro K hK)
  (refine WC.seq ?_; intro K hK)
  refine WC.region rfl ?_
  refine WL.want rfl (WL1.give rfl (g_move rfl (.mk (v := .int _ _) rfl rfl)) ?_)
  refine WL.want rfl (WL1.give rfl (g_ne rfl (.mk rfl rfl) (.mk rfl rfl) (decide_eq_false (by omega))) ?_)
  refine WL.nil ?_
  (refine hK _ _ ?_; clear hK)
  refine WC.cond_false (.mk rfl rfl) ?_
  refine WC.skip ?_
  (refine hK _ _ ?_; clear hK)
  (refine WC.seq ?_; intro K hK)
  refine WC.region rfl ?_
  refine WL.want rfl (WL1.give rfl (g_move rfl (.mk (v := .slice _ _ _) rfl rfl)) ?_)
  refine WL.want rfl (WL1.give rfl (g_len rfl (.mk rfl rfl) rfl) ?_)
  refine WL.want rfl (WL1.give rfl (g_sub rfl (.mk rfl rfl) (.mk rfl rfl) hsub) ?_)
  refine WL.want rfl (WL1.give rfl (g_assign rfl (.mk (v := .int _ _) rfl rfl)) ?_)
  refine WL.nil ?_
  (refine hK _ _ ?_; clear hK)
  (refine WC.seq ?_; intro K hK)
  refine WC.region rfl ?_
  refine WL.want rfl (WL1.alloc rfl rfl rfl rfl (fun b7 => ?_))
  refine WL.nil ?_
  (refine hK _ _ ?_; clear hK)
  refine WC.seqF (fun _ : Unit => [(4, .slice (some ⟨b, 0, none⟩) 3 3), (6, iv n)]) (fun _ => [vec (some ⟨b, 0, none⟩) 3 3 33 8 (kvs y)]) (fun _ => s0 ≠ 0 ∧ ¬ (s1 = 0 ∧ s2 = 0)) ?_ (fun _ U hq => ?_)
  refine WC.block ?_
  (refine WC.seq ?_; intro K hK)
  refine WC.quiet rfl (by kernel_rfl) (by decide +kernel) ?_
  refine WQ.want rfl (WQ1.give rfl (g_move rfl (.mk (v := .slice _ _ _) rfl rfl)) ?_)
  refine WQ.want rfl (WQ1.give rfl (g_indexAddr (sz := 8) rfl (.mk rfl rfl) (.mk rfl rfl) rfl rfl (show _ = ((0 : Nat) : Int) from rfl) (by omega) (fun _ _ => rfl)) ?_)
  refine WQ.want rfl (WQ1.give rfl (g_loadA rfl (.mk rfl rfl) rfl (sz8 _) (rdr_vec (by repeat (first | exact .head _ | apply List.Mem.tail)) (by omega) g0)) ?_)
  refine WQ.want rfl (WQ1.give rfl (g_loadA rfl (.mk rfl rfl) rfl rfl (rdr_pt (by repeat (first | exact .head _ | apply List.Mem.tail)) gz)) ?_)
  rotate_left
  (refine WC.seq ?_; intro K hK)
  (refine WC.seq ?_; intro K hK)
  refine WC.region rfl ?_
  refine WL.want rfl (WL1.give rfl (g_move rfl (.mk (v := .int _ _) rfl rfl)) ?_)
  refine WL.want rfl (WL1.give rfl (g_move rfl (.mk (v := .int _ _) rfl rfl)) ?_)
  refine WL.nil ?_
  (refine hK _ _ ?_; clear hK)
  refine WC.block ?_
  rotate_left
  · by_cases z0 : s0 = 0
    · rw [decide_eq_true z0] at E0
      by_cases z1 : s1 = 0
      · rw [decide_eq_true z1] at E1
        by_cases z2 : s2 = 0
        · rw [decide_eq_true z2] at E2
          refine WQ.want rfl (WQ1.give rfl (g_aeq (by kernel_rfl) rfl (.mk rfl rfl) (.mk rfl rfl) E0) ?_)
          refine WQ.want rfl (WQ1.give rfl (g_move rfl (.mk (v := .bool _) rfl rfl)) ?_)
          refine WQ.wantG rfl rfl rfl rfl (WQ1.give rfl (g_move rfl (.mk (v := .slice _ _ _) rfl rfl)) ?_)
          refine WQ.wantG rfl rfl rfl rfl (WQ1.give rfl (g_indexAddr (sz := 8) rfl (.mk rfl rfl) (.mk rfl rfl) rfl rfl (show _ = ((1 : Nat) : Int) from rfl) (by omega) (fun _ _ => rfl)) ?_)
          refine WQ.wantG rfl rfl rfl rfl (WQ1.give rfl (g_loadA rfl (.mk rfl rfl) rfl (sz8 _) (rdr_vec (by repeat (first | exact .head _ | apply List.Mem.tail)) (by omega) g1)) ?_)
          refine WQ.wantG rfl rfl rfl rfl (WQ1.give rfl (g_loadA rfl (.mk rfl rfl) rfl rfl (rdr_pt (by repeat (first | exact .head _ | apply List.Mem.tail)) gz)) ?_)
          refine WQ.wantG rfl rfl rfl rfl (WQ1.give rfl (g_aeq (by kernel_rfl) rfl (.mk rfl rfl) (.mk rfl rfl) E1) ?_)
          refine WQ.want rfl (WQ1.give rfl (g_pickT rfl (.mk rfl rfl) (.mk (v := .bool _) rfl rfl)) ?_)
          refine WQ.want rfl (WQ1.give rfl (g_move rfl (.mk (v := .bool _) rfl rfl)) ?_)
          refine WQ.wantG rfl rfl rfl rfl (WQ1.give rfl (g_move rfl (.mk (v := .slice _ _ _) rfl rfl)) ?_)
          refine WQ.wantG rfl rfl rfl rfl (WQ1.give rfl (g_indexAddr (sz := 8) rfl (.mk rfl rfl) (.mk rfl rfl) rfl rfl (show _ = ((2 : Nat) : Int) from rfl) (by omega) (fun _ _ => rfl)) ?_)
          refine WQ.wantG rfl rfl rfl rfl (WQ1.give rfl (g_loadA rfl (.mk rfl rfl) rfl (sz8 _) (rdr_vec (by repeat (first | exact .head _ | apply List.Mem.tail)) (by omega) g2)) ?_)
          refine WQ.wantG rfl rfl rfl rfl (WQ1.give rfl (g_loadA rfl (.mk rfl rfl) rfl rfl (rdr_pt (by repeat (first | exact .head _ | apply List.Mem.tail)) gz)) ?_)
          refine WQ.wantG rfl rfl rfl rfl (WQ1.give rfl (g_aeq (by kernel_rfl) rfl (.mk rfl rfl) (.mk rfl rfl) E2) ?_)
          refine WQ.want rfl (WQ1.give rfl (g_pickT rfl (.mk rfl rfl) (.mk (v := .bool _) rfl rfl)) ?_)
          refine WQ.want rfl (WQ1.give rfl (g_assign rfl (.mk (v := .bool _) rfl rfl)) ?_)
          refine WQ.nil ?_
          (refine hK _ _ ?_; clear hK)
          refine WC.cond_true (.mk rfl rfl) ?_
          (refine WC.seq ?_; intro K hK)
          refine WC.region rfl ?_
          refine WL.want rfl (WL1.give rfl (g_assign rfl (.mk (v := .int _ _) rfl rfl)) ?_)
          refine WL.want rfl (WL1.give rfl (g_assign rfl (.mk (v := .int _ _) rfl rfl)) ?_)
          refine WL.nil ?_
          (refine hK _ _ ?_; clear hK)
          refine WC.ret ?_
          exact fun w' hw' => ⟨by rw [show locV n s0 s1 s2 = (0, 9) from by simp [locV, z0, z1, z2]]; rfl, hw'.1⟩
        · rw [decide_eq_false z2] at E2
          refine WQ.want rfl (WQ1.give rfl (g_aeq (by kernel_rfl) rfl (.mk rfl rfl) (.mk rfl rfl) E0) ?_)
          refine WQ.want rfl (WQ1.give rfl (g_move rfl (.mk (v := .bool _) rfl rfl)) ?_)
          refine WQ.wantG rfl rfl rfl rfl (WQ1.give rfl (g_move rfl (.mk (v := .slice _ _ _) rfl rfl)) ?_)
          refine WQ.wantG rfl rfl rfl rfl (WQ1.give rfl (g_indexAddr (sz := 8) rfl (.mk rfl rfl) (.mk rfl rfl) rfl rfl (show _ = ((1 : Nat) : Int) from rfl) (by omega) (fun _ _ => rfl)) ?_)
          refine WQ.wantG rfl rfl rfl rfl (WQ1.give rfl (g_loadA rfl (.mk rfl rfl) rfl (sz8 _) (rdr_vec (by repeat (first | exact .head _ | apply List.Mem.tail)) (by omega) g1)) ?_)
          refine WQ.wantG rfl rfl rfl rfl (WQ1.give rfl (g_loadA rfl (.mk rfl rfl) rfl rfl (rdr_pt (by repeat (first | exact .head _ | apply List.Mem.tail)) gz)) ?_)
          refine WQ.wantG rfl rfl rfl rfl (WQ1.give rfl (g_aeq (by kernel_rfl) rfl (.mk rfl rfl) (.mk rfl rfl) E1) ?_)
          refine WQ.want rfl (WQ1.give rfl (g_pickT rfl (.mk rfl rfl) (.mk (v := .bool _) rfl rfl)) ?_)
          refine WQ.want rfl (WQ1.give rfl (g_move rfl (.mk (v := .bool _) rfl rfl)) ?_)
          refine WQ.wantG rfl rfl rfl rfl (WQ1.give rfl (g_move rfl (.mk (v := .slice _ _ _) rfl rfl)) ?_)
          refine WQ.wantG rfl rfl rfl rfl (WQ1.give rfl (g_indexAddr (sz := 8) rfl (.mk rfl rfl) (.mk rfl rfl) rfl rfl (show _ = ((2 : Nat) : Int) from rfl) (by omega) (fun _ _ => rfl)) ?_)
          refine WQ.wantG rfl rfl rfl rfl (WQ1.give rfl (g_loadA rfl (.mk rfl rfl) rfl (sz8 _) (rdr_vec (by repeat (first | exact .head _ | apply List.Mem.tail)) (by omega) g2)) ?_)
          refine WQ.wantG rfl rfl rfl rfl (WQ1.give rfl (g_loadA rfl (.mk rfl rfl) rfl rfl (rdr_pt (by repeat (first | exact .head _ | apply List.Mem.tail)) gz)) ?_)
          refine WQ.wantG rfl rfl rfl rfl (WQ1.give rfl (g_aeq (by kernel_rfl) rfl (.mk rfl rfl) (.mk rfl rfl) E2) ?_)
          refine WQ.want rfl (WQ1.give rfl (g_pickT rfl (.mk rfl rfl) (.mk (v := .bool _) rfl rfl)) ?_)
          refine WQ.want rfl (WQ1.give rfl (g_assign rfl (.mk (v := .bool _) rfl rfl)) ?_)
          refine WQ.nil ?_
          (refine hK _ _ ?_; clear hK)
          refine WC.cond_false (.mk rfl rfl) ?_
          (refine WC.seq ?_; intro K hK)
          refine WC.quiet rfl (by kernel_rfl) (by decide +kernel) ?_
          refine WQ.want rfl (WQ1.give rfl (g_move rfl (.mk (v := .slice _ _ _) rfl rfl)) ?_)
          refine WQ.want rfl (WQ1.give rfl (g_indexAddr (sz := 8) rfl (.mk rfl rfl) (.mk rfl rfl) rfl rfl (show _ = ((1 : Nat) : Int) from rfl) (by omega) (fun _ _ => rfl)) ?_)
          refine WQ.want rfl (WQ1.give rfl (g_loadA rfl (.mk rfl rfl) rfl (sz8 _) (rdr_vec (by repeat (first | exact .head _ | apply List.Mem.tail)) (by omega) g1)) ?_)
          refine WQ.want rfl (WQ1.give rfl (g_loadA rfl (.mk rfl rfl) rfl rfl (rdr_pt (by repeat (first | exact .head _ | apply List.Mem.tail)) gz)) ?_)
          refine WQ.want rfl (WQ1.give rfl (g_aeq (by kernel_rfl) rfl (.mk rfl rfl) (.mk rfl rfl) E1) ?_)
          refine WQ.want rfl (WQ1.give rfl (g_move rfl (.mk (v := .bool _) rfl rfl)) ?_)
          refine WQ.wantG rfl rfl rfl rfl (WQ1.give rfl (g_move rfl (.mk (v := .slice _ _ _) rfl rfl)) ?_)
          refine WQ.wantG rfl rfl rfl rfl (WQ1.give rfl (g_indexAddr (sz := 8) rfl (.mk rfl rfl) (.mk rfl rfl) rfl rfl (show _ = ((2 : Nat) : Int) from rfl) (by omega) (fun _ _ => rfl)) ?_)
          refine WQ.wantG rfl rfl rfl rfl (WQ1.give rfl (g_loadA rfl (.mk rfl rfl) rfl (sz8 _) (rdr_vec (by repeat (first | exact .head _ | apply List.Mem.tail)) (by omega) g2)) ?_)
          refine WQ.wantG rfl rfl rfl rfl (WQ1.give rfl (g_loadA rfl (.mk rfl rfl) rfl rfl (rdr_pt (by repeat (first | exact .head _ | apply List.Mem.tail)) gz)) ?_)
          refine WQ.wantG rfl rfl rfl rfl (WQ1.give rfl (g_aeq (by kernel_rfl) rfl (.mk rfl rfl) (.mk rfl rfl) E2) ?_)
          refine WQ.want rfl (WQ1.give rfl (g_pickT rfl (.mk rfl rfl) (.mk (v := .bool _) rfl rfl)) ?_)
          refine WQ.want rfl (WQ1.give rfl (g_assign rfl (.mk (v := .bool _) rfl rfl)) ?_)
          refine WQ.nil ?_
          (refine hK _ _ ?_; clear hK)
          refine WC.cond_false (.mk rfl rfl) ?_
          (refine WC.seq ?_; intro K hK)
          refine WC.quiet rfl (by kernel_rfl) (by decide +kernel) ?_
          refine WQ.want rfl (WQ1.give rfl (g_move rfl (.mk (v := .slice _ _ _) rfl rfl)) ?_)
          refine WQ.want rfl (WQ1.give rfl (g_indexAddr (sz := 8) rfl (.mk rfl rfl) (.mk rfl rfl) rfl rfl (show _ = ((0 : Nat) : Int) from rfl) (by omega) (fun _ _ => rfl)) ?_)
          refine WQ.want rfl (WQ1.give rfl (g_loadA rfl (.mk rfl rfl) rfl (sz8 _) (rdr_vec (by repeat (first | exact .head _ | apply List.Mem.tail)) (by omega) g0)) ?_)
          refine WQ.want rfl (WQ1.give rfl (g_loadA rfl (.mk rfl rfl) rfl rfl (rdr_pt (by repeat (first | exact .head _ | apply List.Mem.tail)) gz)) ?_)
          refine WQ.want rfl (WQ1.give rfl (g_aeq (by kernel_rfl) rfl (.mk rfl rfl) (.mk rfl rfl) E0) ?_)
          refine WQ.want rfl (WQ1.give rfl (g_move rfl (.mk (v := .bool _) rfl rfl)) ?_)
          refine WQ.wantG rfl rfl rfl rfl (WQ1.give rfl (g_move rfl (.mk (v := .slice _ _ _) rfl rfl)) ?_)
          refine WQ.wantG rfl rfl rfl rfl (WQ1.give rfl (g_indexAddr (sz := 8) rfl (.mk rfl rfl) (.mk rfl rfl) rfl rfl (show _ = ((2 : Nat) : Int) from rfl) (by omega) (fun _ _ => rfl)) ?_)
          refine WQ.wantG rfl rfl rfl rfl (WQ1.give rfl (g_loadA rfl (.mk rfl rfl) rfl (sz8 _) (rdr_vec (by repeat (first | exact .head _ | apply List.Mem.tail)) (by omega) g2)) ?_)
          refine WQ.wantG rfl rfl rfl rfl (WQ1.give rfl (g_loadA rfl (.mk rfl rfl) rfl rfl (rdr_pt (by repeat (first | exact .head _ | apply List.Mem.tail)) gz)) ?_)
          refine WQ.wantG rfl rfl rfl rfl (WQ1.give rfl (g_aeq (by kernel_rfl) rfl (.mk rfl rfl) (.mk rfl rfl) E2) ?_)
          refine WQ.want rfl (WQ1.give rfl (g_pickT rfl (.mk rfl rfl) (.mk (v := .bool _) rfl rfl)) ?_)
          refine WQ.want rfl (WQ1.give rfl (g_assign rfl (.mk (v := .bool _) rfl rfl)) ?_)
          refine WQ.nil ?_
          (refine hK _ _ ?_; clear hK)
          refine WC.cond_false (.mk rfl rfl) ?_
          (refine WC.seq ?_; intro K hK)
          refine WC.quiet rfl (by kernel_rfl) (by decide +kernel) ?_
          refine WQ.want rfl (WQ1.give rfl (g_move rfl (.mk (v := .slice _ _ _) rfl rfl)) ?_)
          refine WQ.want rfl (WQ1.give rfl (g_indexAddr (sz := 8) rfl (.mk rfl rfl) (.mk rfl rfl) rfl rfl (show _ = ((0 : Nat) : Int) from rfl) (by omega) (fun _ _ => rfl)) ?_)
          refine WQ.want rfl (WQ1.give rfl (g_loadA rfl (.mk rfl rfl) rfl (sz8 _) (rdr_vec (by repeat (first | exact .head _ | apply List.Mem.tail)) (by omega) g0)) ?_)
          refine WQ.want rfl (WQ1.give rfl (g_loadA rfl (.mk rfl rfl) rfl rfl (rdr_pt (by repeat (first | exact .head _ | apply List.Mem.tail)) gz)) ?_)
          refine WQ.want rfl (WQ1.give rfl (g_aeq (by kernel_rfl) rfl (.mk rfl rfl) (.mk rfl rfl) E0) ?_)
          refine WQ.want rfl (WQ1.give rfl (g_move rfl (.mk (v := .bool _) rfl rfl)) ?_)
          refine WQ.wantG rfl rfl rfl rfl (WQ1.give rfl (g_move rfl (.mk (v := .slice _ _ _) rfl rfl)) ?_)
          refine WQ.wantG rfl rfl rfl rfl (WQ1.give rfl (g_indexAddr (sz := 8) rfl (.mk rfl rfl) (.mk rfl rfl) rfl rfl (show _ = ((1 : Nat) : Int) from rfl) (by omega) (fun _ _ => rfl)) ?_)
          refine WQ.wantG rfl rfl rfl rfl (WQ1.give rfl (g_loadA rfl (.mk rfl rfl) rfl (sz8 _) (rdr_vec (by repeat (first | exact .head _ | apply List.Mem.tail)) (by omega) g1)) ?_)
          refine WQ.wantG rfl rfl rfl rfl (WQ1.give rfl (g_loadA rfl (.mk rfl rfl) rfl rfl (rdr_pt (by repeat (first | exact .head _ | apply List.Mem.tail)) gz)) ?_)
          refine WQ.wantG rfl rfl rfl rfl (WQ1.give rfl (g_aeq (by kernel_rfl) rfl (.mk rfl rfl) (.mk rfl rfl) E1) ?_)
          refine WQ.want rfl (WQ1.give rfl (g_pickT rfl (.mk rfl rfl) (.mk (v := .bool _) rfl rfl)) ?_)
          refine WQ.want rfl (WQ1.give rfl (g_assign rfl (.mk (v := .bool _) rfl rfl)) ?_)
          refine WQ.nil ?_
          (refine hK _ _ ?_; clear hK)
          refine WC.cond_true (.mk rfl rfl) ?_
          (refine WC.seq ?_; intro K hK)
          refine WC.region rfl ?_
          refine WL.want rfl (WL1.give rfl (g_move rfl (.mk (v := .int _ _) rfl rfl)) ?_)
          refine WL.want rfl (WL1.give rfl (g_add rfl (.mk rfl rfl) (.mk rfl rfl) (IntWalk.i64_in _ (by omega))) ?_)
          refine WL.want rfl (WL1.give rfl (g_assign rfl (.mk (v := .int _ _) rfl rfl)) ?_)
          refine WL.want rfl (WL1.give rfl (g_assign rfl (.mk (v := .int _ _) rfl rfl)) ?_)
          refine WL.nil ?_
          (refine hK _ _ ?_; clear hK)
          refine WC.ret ?_
          exact fun w' hw' => ⟨by rw [show locV n s0 s1 s2 = (((n + 2 : Nat) : Int), 0) from by simp [locV, z0, z1, z2]]; rfl, hw'.1⟩
      · rw [decide_eq_false z1] at E1
        by_cases z2 : s2 = 0
        · rw [decide_eq_true z2] at E2
          refine WQ.want rfl (WQ1.give rfl (g_aeq (by kernel_rfl) rfl (.mk rfl rfl) (.mk rfl rfl) E0) ?_)
          refine WQ.want rfl (WQ1.give rfl (g_move rfl (.mk (v := .bool _) rfl rfl)) ?_)
          refine WQ.wantG rfl rfl rfl rfl (WQ1.give rfl (g_move rfl (.mk (v := .slice _ _ _) rfl rfl)) ?_)
          refine WQ.wantG rfl rfl rfl rfl (WQ1.give rfl (g_indexAddr (sz := 8) rfl (.mk rfl rfl) (.mk rfl rfl) rfl rfl (show _ = ((1 : Nat) : Int) from rfl) (by omega) (fun _ _ => rfl)) ?_)
          refine WQ.wantG rfl rfl rfl rfl (WQ1.give rfl (g_loadA rfl (.mk rfl rfl) rfl (sz8 _) (rdr_vec (by repeat (first | exact .head _ | apply List.Mem.tail)) (by omega) g1)) ?_)
          refine WQ.wantG rfl rfl rfl rfl (WQ1.give rfl (g_loadA rfl (.mk rfl rfl) rfl rfl (rdr_pt (by repeat (first | exact .head _ | apply List.Mem.tail)) gz)) ?_)
          refine WQ.wantG rfl rfl rfl rfl (WQ1.give rfl (g_aeq (by kernel_rfl) rfl (.mk rfl rfl) (.mk rfl rfl) E1) ?_)
          refine WQ.want rfl (WQ1.give rfl (g_pickT rfl (.mk rfl rfl) (.mk (v := .bool _) rfl rfl)) ?_)
          refine WQ.want rfl (WQ1.give rfl (g_move rfl (.mk (v := .bool _) rfl rfl)) ?_)
          refine WQ.skipG rfl rfl rfl rfl rfl rfl ?_
          refine WQ.skipG rfl rfl rfl rfl rfl rfl ?_
          refine WQ.skipG rfl rfl rfl rfl rfl rfl ?_
          refine WQ.skipG rfl rfl rfl rfl rfl rfl ?_
          refine WQ.skipG rfl rfl rfl rfl rfl rfl ?_
          refine WQ.want rfl (WQ1.give rfl (g_pickF rfl (.mk rfl rfl) (.mk (v := .bool _) rfl rfl)) ?_)
          refine WQ.want rfl (WQ1.give rfl (g_assign rfl (.mk (v := .bool _) rfl rfl)) ?_)
          refine WQ.nil ?_
          (refine hK _ _ ?_; clear hK)
          refine WC.cond_false (.mk rfl rfl) ?_
          (refine WC.seq ?_; intro K hK)
          refine WC.quiet rfl (by kernel_rfl) (by decide +kernel) ?_
          refine WQ.want rfl (WQ1.give rfl (g_move rfl (.mk (v := .slice _ _ _) rfl rfl)) ?_)
          refine WQ.want rfl (WQ1.give rfl (g_indexAddr (sz := 8) rfl (.mk rfl rfl) (.mk rfl rfl) rfl rfl (show _ = ((1 : Nat) : Int) from rfl) (by omega) (fun _ _ => rfl)) ?_)
          refine WQ.want rfl (WQ1.give rfl (g_loadA rfl (.mk rfl rfl) rfl (sz8 _) (rdr_vec (by repeat (first | exact .head _ | apply List.Mem.tail)) (by omega) g1)) ?_)
          refine WQ.want rfl (WQ1.give rfl (g_loadA rfl (.mk rfl rfl) rfl rfl (rdr_pt (by repeat (first | exact .head _ | apply List.Mem.tail)) gz)) ?_)
          refine WQ.want rfl (WQ1.give rfl (g_aeq (by kernel_rfl) rfl (.mk rfl rfl) (.mk rfl rfl) E1) ?_)
          refine WQ.want rfl (WQ1.give rfl (g_move rfl (.mk (v := .bool _) rfl rfl)) ?_)
          refine WQ.skipG rfl rfl rfl rfl rfl rfl ?_
          refine WQ.skipG rfl rfl rfl rfl rfl rfl ?_
          refine WQ.skipG rfl rfl rfl rfl rfl rfl ?_
          refine WQ.skipG rfl rfl rfl rfl rfl rfl ?_
          refine WQ.skipG rfl rfl rfl rfl rfl rfl ?_
          refine WQ.want rfl (WQ1.give rfl (g_pickF rfl (.mk rfl rfl) (.mk (v := .bool _) rfl rfl)) ?_)
          refine WQ.want rfl (WQ1.give rfl (g_assign rfl (.mk (v := .bool _) rfl rfl)) ?_)
          refine WQ.nil ?_
          (refine hK _ _ ?_; clear hK)
          refine WC.cond_false (.mk rfl rfl) ?_
          (refine WC.seq ?_; intro K hK)
          refine WC.quiet rfl (by kernel_rfl) (by decide +kernel) ?_
          refine WQ.want rfl (WQ1.give rfl (g_move rfl (.mk (v := .slice _ _ _) rfl rfl)) ?_)
          refine WQ.want rfl (WQ1.give rfl (g_indexAddr (sz := 8) rfl (.mk rfl rfl) (.mk rfl rfl) rfl rfl (show _ = ((0 : Nat) : Int) from rfl) (by omega) (fun _ _ => rfl)) ?_)
          refine WQ.want rfl (WQ1.give rfl (g_loadA rfl (.mk rfl rfl) rfl (sz8 _) (rdr_vec (by repeat (first | exact .head _ | apply List.Mem.tail)) (by omega) g0)) ?_)
          refine WQ.want rfl (WQ1.give rfl (g_loadA rfl (.mk rfl rfl) rfl rfl (rdr_pt (by repeat (first | exact .head _ | apply List.Mem.tail)) gz)) ?_)
          refine WQ.want rfl (WQ1.give rfl (g_aeq (by kernel_rfl) rfl (.mk rfl rfl) (.mk rfl rfl) E0) ?_)
          refine WQ.want rfl (WQ1.give rfl (g_move rfl (.mk (v := .bool _) rfl rfl)) ?_)
          refine WQ.wantG rfl rfl rfl rfl (WQ1.give rfl (g_move rfl (.mk (v := .slice _ _ _) rfl rfl)) ?_)
          refine WQ.wantG rfl rfl rfl rfl (WQ1.give rfl (g_indexAddr (sz := 8) rfl (.mk rfl rfl) (.mk rfl rfl) rfl rfl (show _ = ((2 : Nat) : Int) from rfl) (by omega) (fun _ _ => rfl)) ?_)
          refine WQ.wantG rfl rfl rfl rfl (WQ1.give rfl (g_loadA rfl (.mk rfl rfl) rfl (sz8 _) (rdr_vec (by repeat (first | exact .head _ | apply List.Mem.tail)) (by omega) g2)) ?_)
          refine WQ.wantG rfl rfl rfl rfl (WQ1.give rfl (g_loadA rfl (.mk rfl rfl) rfl rfl (rdr_pt (by repeat (first | exact .head _ | apply List.Mem.tail)) gz)) ?_)
          refine WQ.wantG rfl rfl rfl rfl (WQ1.give rfl (g_aeq (by kernel_rfl) rfl (.mk rfl rfl) (.mk rfl rfl) E2) ?_)
          refine WQ.want rfl (WQ1.give rfl (g_pickT rfl (.mk rfl rfl) (.mk (v := .bool _) rfl rfl)) ?_)
          refine WQ.want rfl (WQ1.give rfl (g_assign rfl (.mk (v := .bool _) rfl rfl)) ?_)
          refine WQ.nil ?_
          (refine hK _ _ ?_; clear hK)
          refine WC.cond_true (.mk rfl rfl) ?_
          (refine WC.seq ?_; intro K hK)
          refine WC.region rfl ?_
          refine WL.want rfl (WL1.give rfl (g_move rfl (.mk (v := .int _ _) rfl rfl)) ?_)
          refine WL.want rfl (WL1.give rfl (g_add rfl (.mk rfl rfl) (.mk rfl rfl) (IntWalk.i64_in _ (by omega))) ?_)
          refine WL.want rfl (WL1.give rfl (g_assign rfl (.mk (v := .int _ _) rfl rfl)) ?_)
          refine WL.want rfl (WL1.give rfl (g_assign rfl (.mk (v := .int _ _) rfl rfl)) ?_)
          refine WL.nil ?_
          (refine hK _ _ ?_; clear hK)
          refine WC.ret ?_
          exact fun w' hw' => ⟨by rw [show locV n s0 s1 s2 = (((n + 1 : Nat) : Int), 0) from by simp [locV, z0, z1, z2]]; rfl, hw'.1⟩
        · rw [decide_eq_false z2] at E2
          refine WQ.want rfl (WQ1.give rfl (g_aeq (by kernel_rfl) rfl (.mk rfl rfl) (.mk rfl rfl) E0) ?_)
          refine WQ.want rfl (WQ1.give rfl (g_move rfl (.mk (v := .bool _) rfl rfl)) ?_)
          refine WQ.wantG rfl rfl rfl rfl (WQ1.give rfl (g_move rfl (.mk (v := .slice _ _ _) rfl rfl)) ?_)
          refine WQ.wantG rfl rfl rfl rfl (WQ1.give rfl (g_indexAddr (sz := 8) rfl (.mk rfl rfl) (.mk rfl rfl) rfl rfl (show _ = ((1 : Nat) : Int) from rfl) (by omega) (fun _ _ => rfl)) ?_)
          refine WQ.wantG rfl rfl rfl rfl (WQ1.give rfl (g_loadA rfl (.mk rfl rfl) rfl (sz8 _) (rdr_vec (by repeat (first | exact .head _ | apply List.Mem.tail)) (by omega) g1)) ?_)
          refine WQ.wantG rfl rfl rfl rfl (WQ1.give rfl (g_loadA rfl (.mk rfl rfl) rfl rfl (rdr_pt (by repeat (first | exact .head _ | apply List.Mem.tail)) gz)) ?_)
          refine WQ.wantG rfl rfl rfl rfl (WQ1.give rfl (g_aeq (by kernel_rfl) rfl (.mk rfl rfl) (.mk rfl rfl) E1) ?_)
          refine WQ.want rfl (WQ1.give rfl (g_pickT rfl (.mk rfl rfl) (.mk (v := .bool _) rfl rfl)) ?_)
          refine WQ.want rfl (WQ1.give rfl (g_move rfl (.mk (v := .bool _) rfl rfl)) ?_)
          refine WQ.skipG rfl rfl rfl rfl rfl rfl ?_
          refine WQ.skipG rfl rfl rfl rfl rfl rfl ?_
          refine WQ.skipG rfl rfl rfl rfl rfl rfl ?_
          refine WQ.skipG rfl rfl rfl rfl rfl rfl ?_
          refine WQ.skipG rfl rfl rfl rfl rfl rfl ?_
          refine WQ.want rfl (WQ1.give rfl (g_pickF rfl (.mk rfl rfl) (.mk (v := .bool _) rfl rfl)) ?_)
          refine WQ.want rfl (WQ1.give rfl (g_assign rfl (.mk (v := .bool _) rfl rfl)) ?_)
          refine WQ.nil ?_
          (refine hK _ _ ?_; clear hK)
          refine WC.cond_false (.mk rfl rfl) ?_
          (refine WC.seq ?_; intro K hK)
          refine WC.quiet rfl (by kernel_rfl) (by decide +kernel) ?_
          refine WQ.want rfl (WQ1.give rfl (g_move rfl (.mk (v := .slice _ _ _) rfl rfl)) ?_)
          refine WQ.want rfl (WQ1.give rfl (g_indexAddr (sz := 8) rfl (.mk rfl rfl) (.mk rfl rfl) rfl rfl (show _ = ((1 : Nat) : Int) from rfl) (by omega) (fun _ _ => rfl)) ?_)
          refine WQ.want rfl (WQ1.give rfl (g_loadA rfl (.mk rfl rfl) rfl (sz8 _) (rdr_vec (by repeat (first | exact .head _ | apply List.Mem.tail)) (by omega) g1)) ?_)
          refine WQ.want rfl (WQ1.give rfl (g_loadA rfl (.mk rfl rfl) rfl rfl (rdr_pt (by repeat (first | exact .head _ | apply List.Mem.tail)) gz)) ?_)
          refine WQ.want rfl (WQ1.give rfl (g_aeq (by kernel_rfl) rfl (.mk rfl rfl) (.mk rfl rfl) E1) ?_)
          refine WQ.want rfl (WQ1.give rfl (g_move rfl (.mk (v := .bool _) rfl rfl)) ?_)
          refine WQ.skipG rfl rfl rfl rfl rfl rfl ?_
          refine WQ.skipG rfl rfl rfl rfl rfl rfl ?_
          refine WQ.skipG rfl rfl rfl rfl rfl rfl ?_
          refine WQ.skipG rfl rfl rfl rfl rfl rfl ?_
          refine WQ.skipG rfl rfl rfl rfl rfl rfl ?_
          refine WQ.want rfl (WQ1.give rfl (g_pickF rfl (.mk rfl rfl) (.mk (v := .bool _) rfl rfl)) ?_)
          refine WQ.want rfl (WQ1.give rfl (g_assign rfl (.mk (v := .bool _) rfl rfl)) ?_)
          refine WQ.nil ?_
          (refine hK _ _ ?_; clear hK)
          refine WC.cond_false (.mk rfl rfl) ?_
          (refine WC.seq ?_; intro K hK)
          refine WC.quiet rfl (by kernel_rfl) (by decide +kernel) ?_
          refine WQ.want rfl (WQ1.give rfl (g_move rfl (.mk (v := .slice _ _ _) rfl rfl)) ?_)
          refine WQ.want rfl (WQ1.give rfl (g_indexAddr (sz := 8) rfl (.mk rfl rfl) (.mk rfl rfl) rfl rfl (show _ = ((0 : Nat) : Int) from rfl) (by omega) (fun _ _ => rfl)) ?_)
          refine WQ.want rfl (WQ1.give rfl (g_loadA rfl (.mk rfl rfl) rfl (sz8 _) (rdr_vec (by repeat (first | exact .head _ | apply List.Mem.tail)) (by omega) g0)) ?_)
          refine WQ.want rfl (WQ1.give rfl (g_loadA rfl (.mk rfl rfl) rfl rfl (rdr_pt (by repeat (first | exact .head _ | apply List.Mem.tail)) gz)) ?_)
          refine WQ.want rfl (WQ1.give rfl (g_aeq (by kernel_rfl) rfl (.mk rfl rfl) (.mk rfl rfl) E0) ?_)
          refine WQ.want rfl (WQ1.give rfl (g_move rfl (.mk (v := .bool _) rfl rfl)) ?_)
          refine WQ.wantG rfl rfl rfl rfl (WQ1.give rfl (g_move rfl (.mk (v := .slice _ _ _) rfl rfl)) ?_)
          refine WQ.wantG rfl rfl rfl rfl (WQ1.give rfl (g_indexAddr (sz := 8) rfl (.mk rfl rfl) (.mk rfl rfl) rfl rfl (show _ = ((2 : Nat) : Int) from rfl) (by omega) (fun _ _ => rfl)) ?_)
          refine WQ.wantG rfl rfl rfl rfl (WQ1.give rfl (g_loadA rfl (.mk rfl rfl) rfl (sz8 _) (rdr_vec (by repeat (first | exact .head _ | apply List.Mem.tail)) (by omega) g2)) ?_)
          refine WQ.wantG rfl rfl rfl rfl (WQ1.give rfl (g_loadA rfl (.mk rfl rfl) rfl rfl (rdr_pt (by repeat (first | exact .head _ | apply List.Mem.tail)) gz)) ?_)
          refine WQ.wantG rfl rfl rfl rfl (WQ1.give rfl (g_aeq (by kernel_rfl) rfl (.mk rfl rfl) (.mk rfl rfl) E2) ?_)
          refine WQ.want rfl (WQ1.give rfl (g_pickT rfl (.mk rfl rfl) (.mk (v := .bool _) rfl rfl)) ?_)
          refine WQ.want rfl (WQ1.give rfl (g_assign rfl (.mk (v := .bool _) rfl rfl)) ?_)
          refine WQ.nil ?_
          (refine hK _ _ ?_; clear hK)
          refine WC.cond_false (.mk rfl rfl) ?_
          (refine WC.seq ?_; intro K hK)
          refine WC.quiet rfl (by kernel_rfl) (by decide +kernel) ?_
          refine WQ.want rfl (WQ1.give rfl (g_move rfl (.mk (v := .slice _ _ _) rfl rfl)) ?_)
          refine WQ.want rfl (WQ1.give rfl (g_indexAddr (sz := 8) rfl (.mk rfl rfl) (.mk rfl rfl) rfl rfl (show _ = ((0 : Nat) : Int) from rfl) (by omega) (fun _ _ => rfl)) ?_)
          refine WQ.want rfl (WQ1.give rfl (g_loadA rfl (.mk rfl rfl) rfl (sz8 _) (rdr_vec (by repeat (first | exact .head _ | apply List.Mem.tail)) (by omega) g0)) ?_)
          refine WQ.want rfl (WQ1.give rfl (g_loadA rfl (.mk rfl rfl) rfl rfl (rdr_pt (by repeat (first | exact .head _ | apply List.Mem.tail)) gz)) ?_)
          refine WQ.want rfl (WQ1.give rfl (g_aeq (by kernel_rfl) rfl (.mk rfl rfl) (.mk rfl rfl) E0) ?_)
          refine WQ.want rfl (WQ1.give rfl (g_move rfl (.mk (v := .bool _) rfl rfl)) ?_)
          refine WQ.wantG rfl rfl rfl rfl (WQ1.give rfl (g_move rfl (.mk (v := .slice _ _ _) rfl rfl)) ?_)
          refine WQ.wantG rfl rfl rfl rfl (WQ1.give rfl (g_indexAddr (sz := 8) rfl (.mk rfl rfl) (.mk rfl rfl) rfl rfl (show _ = ((1 : Nat) : Int) from rfl) (by omega) (fun _ _ => rfl)) ?_)
          refine WQ.wantG rfl rfl rfl rfl (WQ1.give rfl (g_loadA rfl (.mk rfl rfl) rfl (sz8 _) (rdr_vec (by repeat (first | exact .head _ | apply List.Mem.tail)) (by omega) g1)) ?_)
          refine WQ.wantG rfl rfl rfl rfl (WQ1.give rfl (g_loadA rfl (.mk rfl rfl) rfl rfl (rdr_pt (by repeat (first | exact .head _ | apply List.Mem.tail)) gz)) ?_)
          refine WQ.wantG rfl rfl rfl rfl (WQ1.give rfl (g_aeq (by kernel_rfl) rfl (.mk rfl rfl) (.mk rfl rfl) E1) ?_)
          refine WQ.want rfl (WQ1.give rfl (g_pickT rfl (.mk rfl rfl) (.mk (v := .bool _) rfl rfl)) ?_)
          refine WQ.want rfl (WQ1.give rfl (g_assign rfl (.mk (v := .bool _) rfl rfl)) ?_)
          refine WQ.nil ?_
          (refine hK _ _ ?_; clear hK)
          refine WC.cond_false (.mk rfl rfl) ?_
          (refine WC.seq ?_; intro K hK)
          refine WC.quiet rfl (by kernel_rfl) (by decide +kernel) ?_
          refine WQ.want rfl (WQ1.give rfl (g_move rfl (.mk (v := .slice _ _ _) rfl rfl)) ?_)
          refine WQ.want rfl (WQ1.give rfl (g_indexAddr (sz := 8) rfl (.mk rfl rfl) (.mk rfl rfl) rfl rfl (show _ = ((0 : Nat) : Int) from rfl) (by omega) (fun _ _ => rfl)) ?_)
          refine WQ.want rfl (WQ1.give rfl (g_loadA rfl (.mk rfl rfl) rfl (sz8 _) (rdr_vec (by repeat (first | exact .head _ | apply List.Mem.tail)) (by omega) g0)) ?_)
          refine WQ.want rfl (WQ1.give rfl (g_loadA rfl (.mk rfl rfl) rfl rfl (rdr_pt (by repeat (first | exact .head _ | apply List.Mem.tail)) gz)) ?_)
          refine WQ.want rfl (WQ1.give rfl (g_aeq (by kernel_rfl) rfl (.mk rfl rfl) (.mk rfl rfl) E0) ?_)
          refine WQ.want rfl (WQ1.give rfl (g_assign rfl (.mk (v := .bool _) rfl rfl)) ?_)
          refine WQ.nil ?_
          (refine hK _ _ ?_; clear hK)
          refine WC.cond_true (.mk rfl rfl) ?_
          (refine WC.seq ?_; intro K hK)
          refine WC.region rfl ?_
          refine WL.want rfl (WL1.give rfl (g_assign rfl (.mk (v := .int _ _) rfl rfl)) ?_)
          refine WL.want rfl (WL1.give rfl (g_assign rfl (.mk (v := .int _ _) rfl rfl)) ?_)
          refine WL.nil ?_
          (refine hK _ _ ?_; clear hK)
          refine WC.ret ?_
          exact fun w' hw' => ⟨by rw [show locV n s0 s1 s2 = (0, 12) from by simp [locV, z0, z1, z2]]; rfl, hw'.1⟩
    · rw [decide_eq_false z0] at E0
      by_cases z1 : s1 = 0
      · rw [decide_eq_true z1] at E1
        by_cases z2 : s2 = 0
        · rw [decide_eq_true z2] at E2
          refine WQ.want rfl (WQ1.give rfl (g_aeq (by kernel_rfl) rfl (.mk rfl rfl) (.mk rfl rfl) E0) ?_)
          refine WQ.want rfl (WQ1.give rfl (g_move rfl (.mk (v := .bool _) rfl rfl)) ?_)
          refine WQ.skipG rfl rfl rfl rfl rfl rfl ?_
          refine WQ.skipG rfl rfl rfl rfl rfl rfl ?_
          refine WQ.skipG rfl rfl rfl rfl rfl rfl ?_
          refine WQ.skipG rfl rfl rfl rfl rfl rfl ?_
          refine WQ.skipG rfl rfl rfl rfl rfl rfl ?_
          refine WQ.want rfl (WQ1.give rfl (g_pickF rfl (.mk rfl rfl) (.mk (v := .bool _) rfl rfl)) ?_)
          refine WQ.want rfl (WQ1.give rfl (g_move rfl (.mk (v := .bool _) rfl rfl)) ?_)
          refine WQ.skipG rfl rfl rfl rfl rfl rfl ?_
          refine WQ.skipG rfl rfl rfl rfl rfl rfl ?_
          refine WQ.skipG rfl rfl rfl rfl rfl rfl ?_
          refine WQ.skipG rfl rfl rfl rfl rfl rfl ?_
          refine WQ.skipG rfl rfl rfl rfl rfl rfl ?_
          refine WQ.want rfl (WQ1.give rfl (g_pickF rfl (.mk rfl rfl) (.mk (v := .bool _) rfl rfl)) ?_)
          refine WQ.want rfl (WQ1.give rfl (g_assign rfl (.mk (v := .bool _) rfl rfl)) ?_)
          refine WQ.nil ?_
          (refine hK _ _ ?_; clear hK)
          refine WC.cond_false (.mk rfl rfl) ?_
          (refine WC.seq ?_; intro K hK)
          refine WC.quiet rfl (by kernel_rfl) (by decide +kernel) ?_
          refine WQ.want rfl (WQ1.give rfl (g_move rfl (.mk (v := .slice _ _ _) rfl rfl)) ?_)
          refine WQ.want rfl (WQ1.give rfl (g_indexAddr (sz := 8) rfl (.mk rfl rfl) (.mk rfl rfl) rfl rfl (show _ = ((1 : Nat) : Int) from rfl) (by omega) (fun _ _ => rfl)) ?_)
          refine WQ.want rfl (WQ1.give rfl (g_loadA rfl (.mk rfl rfl) rfl (sz8 _) (rdr_vec (by repeat (first | exact .head _ | apply List.Mem.tail)) (by omega) g1)) ?_)
          refine WQ.want rfl (WQ1.give rfl (g_loadA rfl (.mk rfl rfl) rfl rfl (rdr_pt (by repeat (first | exact .head _ | apply List.Mem.tail)) gz)) ?_)
          refine WQ.want rfl (WQ1.give rfl (g_aeq (by kernel_rfl) rfl (.mk rfl rfl) (.mk rfl rfl) E1) ?_)
          refine WQ.want rfl (WQ1.give rfl (g_move rfl (.mk (v := .bool _) rfl rfl)) ?_)
          refine WQ.wantG rfl rfl rfl rfl (WQ1.give rfl (g_move rfl (.mk (v := .slice _ _ _) rfl rfl)) ?_)
          refine WQ.wantG rfl rfl rfl rfl (WQ1.give rfl (g_indexAddr (sz := 8) rfl (.mk rfl rfl) (.mk rfl rfl) rfl rfl (show _ = ((2 : Nat) : Int) from rfl) (by omega) (fun _ _ => rfl)) ?_)
          refine WQ.wantG rfl rfl rfl rfl (WQ1.give rfl (g_loadA rfl (.mk rfl rfl) rfl (sz8 _) (rdr_vec (by repeat (first | exact .head _ | apply List.Mem.tail)) (by omega) g2)) ?_)
          refine WQ.wantG rfl rfl rfl rfl (WQ1.give rfl (g_loadA rfl (.mk rfl rfl) rfl rfl (rdr_pt (by repeat (first | exact .head _ | apply List.Mem.tail)) gz)) ?_)
          refine WQ.wantG rfl rfl rfl rfl (WQ1.give rfl (g_aeq (by kernel_rfl) rfl (.mk rfl rfl) (.mk rfl rfl) E2) ?_)
          refine WQ.want rfl (WQ1.give rfl (g_pickT rfl (.mk rfl rfl) (.mk (v := .bool _) rfl rfl)) ?_)
          refine WQ.want rfl (WQ1.give rfl (g_assign rfl (.mk (v := .bool _) rfl rfl)) ?_)
          refine WQ.nil ?_
          (refine hK _ _ ?_; clear hK)
          refine WC.cond_true (.mk rfl rfl) ?_
          (refine WC.seq ?_; intro K hK)
          refine WC.region rfl ?_
          refine WL.want rfl (WL1.give rfl (g_move rfl (.mk (v := .int _ _) rfl rfl)) ?_)
          refine WL.want rfl (WL1.give rfl (g_assign rfl (.mk (v := .int _ _) rfl rfl)) ?_)
          refine WL.want rfl (WL1.give rfl (g_assign rfl (.mk (v := .int _ _) rfl rfl)) ?_)
          refine WL.nil ?_
          (refine hK _ _ ?_; clear hK)
          refine WC.ret ?_
          exact fun w' hw' => ⟨by rw [show locV n s0 s1 s2 = ((n : Int), 0) from by simp [locV, z0, z1, z2]]; rfl, hw'.1⟩
        · rw [decide_eq_false z2] at E2
          refine WQ.want rfl (WQ1.give rfl (g_aeq (by kernel_rfl) rfl (.mk rfl rfl) (.mk rfl rfl) E0) ?_)
          refine WQ.want rfl (WQ1.give rfl (g_move rfl (.mk (v := .bool _) rfl rfl)) ?_)
          refine WQ.skipG rfl rfl rfl rfl rfl rfl ?_
          refine WQ.skipG rfl rfl rfl rfl rfl rfl ?_
          refine WQ.skipG rfl rfl rfl rfl rfl rfl ?_
          refine WQ.skipG rfl rfl rfl rfl rfl rfl ?_
          refine WQ.skipG rfl rfl rfl rfl rfl rfl ?_
          refine WQ.want rfl (WQ1.give rfl (g_pickF rfl (.mk rfl rfl) (.mk (v := .bool _) rfl rfl)) ?_)
          refine WQ.want rfl (WQ1.give rfl (g_move rfl (.mk (v := .bool _) rfl rfl)) ?_)
          refine WQ.skipG rfl rfl rfl rfl rfl rfl ?_
          refine WQ.skipG rfl rfl rfl rfl rfl rfl ?_
          refine WQ.skipG rfl rfl rfl rfl rfl rfl ?_
          refine WQ.skipG rfl rfl rfl rfl rfl rfl ?_
          refine WQ.skipG rfl rfl rfl rfl rfl rfl ?_
          refine WQ.want rfl (WQ1.give rfl (g_pickF rfl (.mk rfl rfl) (.mk (v := .bool _) rfl rfl)) ?_)
          refine WQ.want rfl (WQ1.give rfl (g_assign rfl (.mk (v := .bool _) rfl rfl)) ?_)
          refine WQ.nil ?_
          (refine hK _ _ ?_; clear hK)
          refine WC.cond_false (.mk rfl rfl) ?_
          (refine WC.seq ?_; intro K hK)
          refine WC.quiet rfl (by kernel_rfl) (by decide +kernel) ?_
          refine WQ.want rfl (WQ1.give rfl (g_move rfl (.mk (v := .slice _ _ _) rfl rfl)) ?_)
          refine WQ.want rfl (WQ1.give rfl (g_indexAddr (sz := 8) rfl (.mk rfl rfl) (.mk rfl rfl) rfl rfl (show _ = ((1 : Nat) : Int) from rfl) (by omega) (fun _ _ => rfl)) ?_)
          refine WQ.want rfl (WQ1.give rfl (g_loadA rfl (.mk rfl rfl) rfl (sz8 _) (rdr_vec (by repeat (first | exact .head _ | apply List.Mem.tail)) (by omega) g1)) ?_)
          refine WQ.want rfl (WQ1.give rfl (g_loadA rfl (.mk rfl rfl) rfl rfl (rdr_pt (by repeat (first | exact .head _ | apply List.Mem.tail)) gz)) ?_)
          refine WQ.want rfl (WQ1.give rfl (g_aeq (by kernel_rfl) rfl (.mk rfl rfl) (.mk rfl rfl) E1) ?_)
          refine WQ.want rfl (WQ1.give rfl (g_move rfl (.mk (v := .bool _) rfl rfl)) ?_)
          refine WQ.wantG rfl rfl rfl rfl (WQ1.give rfl (g_move rfl (.mk (v := .slice _ _ _) rfl rfl)) ?_)
          refine WQ.wantG rfl rfl rfl rfl (WQ1.give rfl (g_indexAddr (sz := 8) rfl (.mk rfl rfl) (.mk rfl rfl) rfl rfl (show _ = ((2 : Nat) : Int) from rfl) (by omega) (fun _ _ => rfl)) ?_)
          refine WQ.wantG rfl rfl rfl rfl (WQ1.give rfl (g_loadA rfl (.mk rfl rfl) rfl (sz8 _) (rdr_vec (by repeat (first | exact .head _ | apply List.Mem.tail)) (by omega) g2)) ?_)
          refine WQ.wantG rfl rfl rfl rfl (WQ1.give rfl (g_loadA rfl (.mk rfl rfl) rfl rfl (rdr_pt (by repeat (first | exact .head _ | apply List.Mem.tail)) gz)) ?_)
          refine WQ.wantG rfl rfl rfl rfl (WQ1.give rfl (g_aeq (by kernel_rfl) rfl (.mk rfl rfl) (.mk rfl rfl) E2) ?_)
          refine WQ.want rfl (WQ1.give rfl (g_pickT rfl (.mk rfl rfl) (.mk (v := .bool _) rfl rfl)) ?_)
          refine WQ.want rfl (WQ1.give rfl (g_assign rfl (.mk (v := .bool _) rfl rfl)) ?_)
          refine WQ.nil ?_
          (refine hK _ _ ?_; clear hK)
          refine WC.cond_false (.mk rfl rfl) ?_
          (refine WC.seq ?_; intro K hK)
          refine WC.quiet rfl (by kernel_rfl) (by decide +kernel) ?_
          refine WQ.want rfl (WQ1.give rfl (g_move rfl (.mk (v := .slice _ _ _) rfl rfl)) ?_)
          refine WQ.want rfl (WQ1.give rfl (g_indexAddr (sz := 8) rfl (.mk rfl rfl) (.mk rfl rfl) rfl rfl (show _ = ((0 : Nat) : Int) from rfl) (by omega) (fun _ _ => rfl)) ?_)
          refine WQ.want rfl (WQ1.give rfl (g_loadA rfl (.mk rfl rfl) rfl (sz8 _) (rdr_vec (by repeat (first | exact .head _ | apply List.Mem.tail)) (by omega) g0)) ?_)
          refine WQ.want rfl (WQ1.give rfl (g_loadA rfl (.mk rfl rfl) rfl rfl (rdr_pt (by repeat (first | exact .head _ | apply List.Mem.tail)) gz)) ?_)
          refine WQ.want rfl (WQ1.give rfl (g_aeq (by kernel_rfl) rfl (.mk rfl rfl) (.mk rfl rfl) E0) ?_)
          refine WQ.want rfl (WQ1.give rfl (g_move rfl (.mk (v := .bool _) rfl rfl)) ?_)
          refine WQ.skipG rfl rfl rfl rfl rfl rfl ?_
          refine WQ.skipG rfl rfl rfl rfl rfl rfl ?_
          refine WQ.skipG rfl rfl rfl rfl rfl rfl ?_
          refine WQ.skipG rfl rfl rfl rfl rfl rfl ?_
          refine WQ.skipG rfl rfl rfl rfl rfl rfl ?_
          refine WQ.want rfl (WQ1.give rfl (g_pickF rfl (.mk rfl rfl) (.mk (v := .bool _) rfl rfl)) ?_)
          refine WQ.want rfl (WQ1.give rfl (g_assign rfl (.mk (v := .bool _) rfl rfl)) ?_)
          refine WQ.nil ?_
          (refine hK _ _ ?_; clear hK)
          refine WC.cond_false (.mk rfl rfl) ?_
          (refine WC.seq ?_; intro K hK)
          refine WC.quiet rfl (by kernel_rfl) (by decide +kernel) ?_
          refine WQ.want rfl (WQ1.give rfl (g_move rfl (.mk (v := .slice _ _ _) rfl rfl)) ?_)
          refine WQ.want rfl (WQ1.give rfl (g_indexAddr (sz := 8) rfl (.mk rfl rfl) (.mk rfl rfl) rfl rfl (show _ = ((0 : Nat) : Int) from rfl) (by omega) (fun _ _ => rfl)) ?_)
          refine WQ.want rfl (WQ1.give rfl (g_loadA rfl (.mk rfl rfl) rfl (sz8 _) (rdr_vec (by repeat (first | exact .head _ | apply List.Mem.tail)) (by omega) g0)) ?_)
          refine WQ.want rfl (WQ1.give rfl (g_loadA rfl (.mk rfl rfl) rfl rfl (rdr_pt (by repeat (first | exact .head _ | apply List.Mem.tail)) gz)) ?_)
          refine WQ.want rfl (WQ1.give rfl (g_aeq (by kernel_rfl) rfl (.mk rfl rfl) (.mk rfl rfl) E0) ?_)
          refine WQ.want rfl (WQ1.give rfl (g_move rfl (.mk (v := .bool _) rfl rfl)) ?_)
          refine WQ.skipG rfl rfl rfl rfl rfl rfl ?_
          refine WQ.skipG rfl rfl rfl rfl rfl rfl ?_
          refine WQ.skipG rfl rfl rfl rfl rfl rfl ?_
          refine WQ.skipG rfl rfl rfl rfl rfl rfl ?_
          refine WQ.skipG rfl rfl rfl rfl rfl rfl ?_
          refine WQ.want rfl (WQ1.give rfl (g_pickF rfl (.mk rfl rfl) (.mk (v := .bool _) rfl rfl)) ?_)
          refine WQ.want rfl (WQ1.give rfl (g_assign rfl (.mk (v := .bool _) rfl rfl)) ?_)
          refine WQ.nil ?_
          (refine hK _ _ ?_; clear hK)
          refine WC.cond_false (.mk rfl rfl) ?_
          (refine WC.seq ?_; intro K hK)
          refine WC.quiet rfl (by kernel_rfl) (by decide +kernel) ?_
          refine WQ.want rfl (WQ1.give rfl (g_move rfl (.mk (v := .slice _ _ _) rfl rfl)) ?_)
          refine WQ.want rfl (WQ1.give rfl (g_indexAddr (sz := 8) rfl (.mk rfl rfl) (.mk rfl rfl) rfl rfl (show _ = ((0 : Nat) : Int) from rfl) (by omega) (fun _ _ => rfl)) ?_)
          refine WQ.want rfl (WQ1.give rfl (g_loadA rfl (.mk rfl rfl) rfl (sz8 _) (rdr_vec (by repeat (first | exact .head _ | apply List.Mem.tail)) (by omega) g0)) ?_)
          refine WQ.want rfl (WQ1.give rfl (g_loadA rfl (.mk rfl rfl) rfl rfl (rdr_pt (by repeat (first | exact .head _ | apply List.Mem.tail)) gz)) ?_)
          refine WQ.want rfl (WQ1.give rfl (g_aeq (by kernel_rfl) rfl (.mk rfl rfl) (.mk rfl rfl) E0) ?_)
          refine WQ.want rfl (WQ1.give rfl (g_assign rfl (.mk (v := .bool _) rfl rfl)) ?_)
          refine WQ.nil ?_
          (refine hK _ _ ?_; clear hK)
          refine WC.cond_false (.mk rfl rfl) ?_
          refine WC.skip ?_
          exact ⟨(), (by repeat (first | exact trivial | refine ⟨rfl, ?_⟩)), Imp.pick (by repeat (first | exact .head | apply Take.tail)) (Imp.nil _), z0, fun h => z2 h.2⟩
      · rw [decide_eq_false z1] at E1
        refine WQ.want rfl (WQ1.give rfl (g_aeq (by kernel_rfl) rfl (.mk rfl rfl) (.mk rfl rfl) E0) ?_)
        refine WQ.want rfl (WQ1.give rfl (g_move rfl (.mk (v := .bool _) rfl rfl)) ?_)
        refine WQ.skipG rfl rfl rfl rfl rfl rfl ?_
        refine WQ.skipG rfl rfl rfl rfl rfl rfl ?_
        refine WQ.skipG rfl rfl rfl rfl rfl rfl ?_
        refine WQ.skipG rfl rfl rfl rfl rfl rfl ?_
        refine WQ.skipG rfl rfl rfl rfl rfl rfl ?_
        refine WQ.want rfl (WQ1.give rfl (g_pickF rfl (.mk rfl rfl) (.mk (v := .bool _) rfl rfl)) ?_)
        refine WQ.want rfl (WQ1.give rfl (g_move rfl (.mk (v := .bool _) rfl rfl)) ?_)
        refine WQ.skipG rfl rfl rfl rfl rfl rfl ?_
        refine WQ.skipG rfl rfl rfl rfl rfl rfl ?_
        refine WQ.skipG rfl rfl rfl rfl rfl rfl ?_
        refine WQ.skipG rfl rfl rfl rfl rfl rfl ?_
        refine WQ.skipG rfl rfl rfl rfl rfl rfl ?_
        refine WQ.want rfl (WQ1.give rfl (g_pickF rfl (.mk rfl rfl) (.mk (v := .bool _) rfl rfl)) ?_)
        refine WQ.want rfl (WQ1.give rfl (g_assign rfl (.mk (v := .bool _) rfl rfl)) ?_)
        refine WQ.nil ?_
        (refine hK _ _ ?_; clear hK)
        refine WC.cond_false (.mk rfl rfl) ?_
        (refine WC.seq ?_; intro K hK)
        refine WC.quiet rfl (by kernel_rfl) (by decide +kernel) ?_
        refine WQ.want rfl (WQ1.give rfl (g_move rfl (.mk (v := .slice _ _ _) rfl rfl)) ?_)
        refine WQ.want rfl (WQ1.give rfl (g_indexAddr (sz := 8) rfl (.mk rfl rfl) (.mk rfl rfl) rfl rfl (show _ = ((1 : Nat) : Int) from rfl) (by omega) (fun _ _ => rfl)) ?_)
        refine WQ.want rfl (WQ1.give rfl (g_loadA rfl (.mk rfl rfl) rfl (sz8 _) (rdr_vec (by repeat (first | exact .head _ | apply List.Mem.tail)) (by omega) g1)) ?_)
        refine WQ.want rfl (WQ1.give rfl (g_loadA rfl (.mk rfl rfl) rfl rfl (rdr_pt (by repeat (first | exact .head _ | apply List.Mem.tail)) gz)) ?_)
        refine WQ.want rfl (WQ1.give rfl (g_aeq (by kernel_rfl) rfl (.mk rfl rfl) (.mk rfl rfl) E1) ?_)
        refine WQ.want rfl (WQ1.give rfl (g_move rfl (.mk (v := .bool _) rfl rfl)) ?_)
        refine WQ.skipG rfl rfl rfl rfl rfl rfl ?_
        refine WQ.skipG rfl rfl rfl rfl rfl rfl ?_
        refine WQ.skipG rfl rfl rfl rfl rfl rfl ?_
        refine WQ.skipG rfl rfl rfl rfl rfl rfl ?_
        refine WQ.skipG rfl rfl rfl rfl rfl rfl ?_
        refine WQ.want rfl (WQ1.give rfl (g_pickF rfl (.mk rfl rfl) (.mk (v := .bool _) rfl rfl)) ?_)
        refine WQ.want rfl (WQ1.give rfl (g_assign rfl (.mk (v := .bool _) rfl rfl)) ?_)
        refine WQ.nil ?_
        (refine hK _ _ ?_; clear hK)
        refine WC.cond_false (.mk rfl rfl) ?_
        (refine WC.seq ?_; intro K hK)
        refine WC.quiet rfl (by kernel_rfl) (by decide +kernel) ?_
        refine WQ.want rfl (WQ1.give rfl (g_move rfl (.mk (v := .slice _ _ _) rfl rfl)) ?_)
        refine WQ.want rfl (WQ1.give rfl (g_indexAddr (sz := 8) rfl (.mk rfl rfl) (.mk rfl rfl) rfl rfl (show _ = ((0 : Nat) : Int) from rfl) (by omega) (fun _ _ => rfl)) ?_)
        refine WQ.want rfl (WQ1.give rfl (g_loadA rfl (.mk rfl rfl) rfl (sz8 _) (rdr_vec (by repeat (first | exact .head _ | apply List.Mem.tail)) (by omega) g0)) ?_)
        refine WQ.want rfl (WQ1.give rfl (g_loadA rfl (.mk rfl rfl) rfl rfl (rdr_pt (by repeat (first | exact .head _ | apply List.Mem.tail)) gz)) ?_)
        refine WQ.want rfl (WQ1.give rfl (g_aeq (by kernel_rfl) rfl (.mk rfl rfl) (.mk rfl rfl) E0) ?_)
        refine WQ.want rfl (WQ1.give rfl (g_move rfl (.mk (v := .bool _) rfl rfl)) ?_)
        refine WQ.skipG rfl rfl rfl rfl rfl rfl ?_
        refine WQ.skipG rfl rfl rfl rfl rfl rfl ?_
        refine WQ.skipG rfl rfl rfl rfl rfl rfl ?_
        refine WQ.skipG rfl rfl rfl rfl rfl rfl ?_
        refine WQ.skipG rfl rfl rfl rfl rfl rfl ?_
        refine WQ.want rfl (WQ1.give rfl (g_pickF rfl (.mk rfl rfl) (.mk (v := .bool _) rfl rfl)) ?_)
        refine WQ.want rfl (WQ1.give rfl (g_assign rfl (.mk (v := .bool _) rfl rfl)) ?_)
        refine WQ.nil ?_
        (refine hK _ _ ?_; clear hK)
        refine WC.cond_false (.mk rfl rfl) ?_
        (refine WC.seq ?_; intro K hK)
        refine WC.quiet rfl (by kernel_rfl) (by decide +kernel) ?_
        refine WQ.want rfl (WQ1.give rfl (g_move rfl (.mk (v := .slice _ _ _) rfl rfl)) ?_)
        refine WQ.want rfl (WQ1.give rfl (g_indexAddr (sz := 8) rfl (.mk rfl rfl) (.mk rfl rfl) rfl rfl (show _ = ((0 : Nat) : Int) from rfl) (by omega) (fun _ _ => rfl)) ?_)
        refine WQ.want rfl (WQ1.give rfl (g_loadA rfl (.mk rfl rfl) rfl (sz8 _) (rdr_vec (by repeat (first | exact .head _ | apply List.Mem.tail)) (by omega) g0)) ?_)
        refine WQ.want rfl (WQ1.give rfl (g_loadA rfl (.mk rfl rfl) rfl rfl (rdr_pt (by repeat (first | exact .head _ | apply List.Mem.tail)) gz)) ?_)
        refine WQ.want rfl (WQ1.give rfl (g_aeq (by kernel_rfl) rfl (.mk rfl rfl) (.mk rfl rfl) E0) ?_)
        refine WQ.want rfl (WQ1.give rfl (g_move rfl (.mk (v := .bool _) rfl rfl)) ?_)
        refine WQ.skipG rfl rfl rfl rfl rfl rfl ?_
        refine WQ.skipG rfl rfl rfl rfl rfl rfl ?_
        refine WQ.skipG rfl rfl rfl rfl rfl rfl ?_
        refine WQ.skipG rfl rfl rfl rfl rfl rfl ?_
        refine WQ.skipG rfl rfl rfl rfl rfl rfl ?_
        refine WQ.want rfl (WQ1.give rfl (g_pickF rfl (.mk rfl rfl) (.mk (v := .bool _) rfl rfl)) ?_)
        refine WQ.want rfl (WQ1.give rfl (g_assign rfl (.mk (v := .bool _) rfl rfl)) ?_)
        refine WQ.nil ?_
        (refine hK _ _ ?_; clear hK)
        refine WC.cond_false (.mk rfl rfl) ?_
        (refine WC.seq ?_; intro K hK)
        refine WC.quiet rfl (by kernel_rfl) (by decide +kernel) ?_
        refine WQ.want rfl (WQ1.give rfl (g_move rfl (.mk (v := .slice _ _ _) rfl rfl)) ?_)
        refine WQ.want rfl (WQ1.give rfl (g_indexAddr (sz := 8) rfl (.mk rfl rfl) (.mk rfl rfl) rfl rfl (show _ = ((0 : Nat) : Int) from rfl) (by omega) (fun _ _ => rfl)) ?_)
        refine WQ.want rfl (WQ1.give rfl (g_loadA rfl (.mk rfl rfl) rfl (sz8 _) (rdr_vec (by repeat (first | exact .head _ | apply List.Mem.tail)) (by omega) g0)) ?_)
        refine WQ.want rfl (WQ1.give rfl (g_loadA rfl (.mk rfl rfl) rfl rfl (rdr_pt (by repeat (first | exact .head _ | apply List.Mem.tail)) gz)) ?_)
        refine WQ.want rfl (WQ1.give rfl (g_aeq (by kernel_rfl) rfl (.mk rfl rfl) (.mk rfl rfl) E0) ?_)
        refine WQ.want rfl (WQ1.give rfl (g_assign rfl (.mk (v := .bool _) rfl rfl)) ?_)
        refine WQ.nil ?_
        (refine hK _ _ ?_; clear hK)
        refine WC.cond_false (.mk rfl rfl) ?_
        refine WC.skip ?_
        exact ⟨(), (by repeat (first | exact trivial | refine ⟨rfl, ?_⟩)), Imp.pick (by repeat (first | exact .head | apply Take.tail)) (Imp.nil _), z0, fun h => z1 h.1⟩
  · obtain ⟨z0, z12⟩ := hq
    obtain ⟨P, hP⟩ : ∃ P : Nat → Bool, P = fun i => decide (s1 = gpow 2 i * s0 ∧ s2 = gpow 2 (2 * i) * s0) := ⟨_, rfl⟩
    have hloc : locV n s0 s1 s2 = match fnd P n with | some i => ((i : Int), 0) | none => (0, 12) := by
      rw [locV, if_neg (fun h => z0 h.1), if_neg z12, if_neg (fun h => z0 h.1), if_neg (fun h => z0 h.1), if_neg z0, hP]
    
    refine WC.loopF (fun i : Nat => [(91, iv i), (90, iv n), (4, .slice (some ⟨b, 0, none⟩) 3 3)]) (fun i => [vec (some ⟨b, 0, none⟩) 3 3 33 8 (kvs y)]) (fun i => i ≤ n ∧ ∀ j, j < i → P j = false) (fun i => n - i) 0 (by repeat (first | exact trivial | refine ⟨rfl, ?_⟩)) (.refl _) ⟨by omega, fun j hj => absurd hj (by omega)⟩ ?_
    rintro i V ⟨hi, hpi⟩
    by_cases hlt : i < n
    · have hmul : IntKind.i64.wrap (2 * (i : Int)) = ((2 * i : Nat) : Int) := (IntWalk.i64_in _ (by omega)).trans (by omega)
      have F1 := eqv_blk s1 (gpow 2 i * s0)
      have F2 := eqv_blk s2 (gpow 2 (2 * i) * s0)
      by_cases q1 : s1 = gpow 2 i * s0
      · rw [decide_eq_true q1] at F1
        by_cases q2 : s2 = gpow 2 (2 * i) * s0
        · rw [decide_eq_true q2] at F2
          (refine WC.seq ?_; intro K hK)
          refine WC.region rfl ?_
          refine WL.want rfl (WL1.give rfl (g_lt rfl (.mk rfl rfl) (.mk rfl rfl) (decide_eq_true (by omega))) ?_)
          refine WL.nil ?_
          (refine hK _ _ ?_; clear hK)
          (refine WC.seq ?_; intro K hK)
          refine WC.cond_true (.mk rfl rfl) ?_
          refine WC.skip ?_
          (refine hK _ _ ?_; clear hK)
          (refine WC.seq ?_; intro K hK)
          refine WC.block ?_
          (refine WC.seq ?_; intro K hK)
          refine WC.region rfl ?_
          refine WL.want rfl (WL1.give rfl (g_move rfl (.mk (v := .int _ _) rfl rfl)) ?_)
          refine WL.want rfl (WL1.give rfl (g_assign rfl (.mk (v := .int _ _) rfl rfl)) ?_)
          refine WL.nil ?_
          (refine hK _ _ ?_; clear hK)
          (refine WC.seq ?_; intro K hK)
          refine WC.quiet rfl (by kernel_rfl) (by decide +kernel) ?_
          refine WQ.want rfl (WQ1.give rfl (g_move rfl (.mk (v := .slice _ _ _) rfl rfl)) ?_)
          refine WQ.want rfl (WQ1.give rfl (g_indexAddr (sz := 8) rfl (.mk rfl rfl) (.mk rfl rfl) rfl rfl (show _ = ((1 : Nat) : Int) from rfl) (by omega) (fun _ _ => rfl)) ?_)
          refine WQ.want rfl (WQ1.give rfl (g_loadA rfl (.mk rfl rfl) rfl (sz8 _) (rdr_vec (by repeat (first | exact .head _ | apply List.Mem.tail)) (by omega) g1)) ?_)
          refine WQ.want rfl (WQ1.give rfl (g_move rfl (.mk (v := .slice _ _ _) rfl rfl)) ?_)
          refine WQ.want rfl (WQ1.give rfl (g_indexAddr (sz := 8) rfl (.mk rfl rfl) (.mk rfl rfl) rfl rfl (show _ = ((0 : Nat) : Int) from rfl) (by omega) (fun _ _ => rfl)) ?_)
          refine WQ.want rfl (WQ1.give rfl (g_loadA rfl (.mk rfl rfl) rfl (sz8 _) (rdr_vec (by repeat (first | exact .head _ | apply List.Mem.tail)) (by omega) g0)) ?_)
          refine WQ.want rfl (WQ1.give rfl (g_move rfl (.mk (v := .int _ _) rfl rfl)) ?_)
          refine WQ.want rfl (WQ1.callP rfl rfl rfl (.cons (.mk (v := .int _ _) rfl rfl) .nil) (fun w hw => Calls.belowS (exp_j i (by omega) w)) ?_)
          refine WQ.want rfl (WQ1.callP rfl rfl rfl (.cons (.mk (v := .agg _) rfl rfl) (.cons (.mk (v := .int _ _) rfl rfl) .nil)) (fun w hw => times_e s0 (gpow 2 i) w) ?_)
          refine WQ.want rfl (WQ1.give rfl (g_aeq (by kernel_rfl) rfl (.mk rfl rfl) (.mk rfl rfl) F1) ?_)
          refine WQ.want rfl (WQ1.give rfl (g_move rfl (.mk (v := .bool _) rfl rfl)) ?_)
          refine WQ.wantG rfl rfl rfl rfl (WQ1.give rfl (g_move rfl (.mk (v := .slice _ _ _) rfl rfl)) ?_)
          refine WQ.wantG rfl rfl rfl rfl (WQ1.give rfl (g_indexAddr (sz := 8) rfl (.mk rfl rfl) (.mk rfl rfl) rfl rfl (show _ = ((2 : Nat) : Int) from rfl) (by omega) (fun _ _ => rfl)) ?_)
          refine WQ.wantG rfl rfl rfl rfl (WQ1.give rfl (g_loadA rfl (.mk rfl rfl) rfl (sz8 _) (rdr_vec (by repeat (first | exact .head _ | apply List.Mem.tail)) (by omega) g2)) ?_)
          refine WQ.wantG rfl rfl rfl rfl (WQ1.give rfl (g_move rfl (.mk (v := .slice _ _ _) rfl rfl)) ?_)
          refine WQ.wantG rfl rfl rfl rfl (WQ1.give rfl (g_indexAddr (sz := 8) rfl (.mk rfl rfl) (.mk rfl rfl) rfl rfl (show _ = ((0 : Nat) : Int) from rfl) (by omega) (fun _ _ => rfl)) ?_)
          refine WQ.wantG rfl rfl rfl rfl (WQ1.give rfl (g_loadA rfl (.mk rfl rfl) rfl (sz8 _) (rdr_vec (by repeat (first | exact .head _ | apply List.Mem.tail)) (by omega) g0)) ?_)
          refine WQ.wantG rfl rfl rfl rfl (WQ1.give rfl (g_move rfl (.mk (v := .int _ _) rfl rfl)) ?_)
          refine WQ.wantG rfl rfl rfl rfl (WQ1.give rfl (g_mul rfl (.mk rfl rfl) (.mk rfl rfl) hmul) ?_)
          refine WQ.wantG rfl rfl rfl rfl (WQ1.callP rfl rfl rfl (.cons (.mk (v := .int _ _) rfl rfl) .nil) (fun w hw => Calls.belowS (exp_j (2 * i) (by omega) w)) ?_)
          refine WQ.wantG rfl rfl rfl rfl (WQ1.callP rfl rfl rfl (.cons (.mk (v := .agg _) rfl rfl) (.cons (.mk (v := .int _ _) rfl rfl) .nil)) (fun w hw => times_e s0 (gpow 2 (2 * i)) w) ?_)
          refine WQ.wantG rfl rfl rfl rfl (WQ1.give rfl (g_aeq (by kernel_rfl) rfl (.mk rfl rfl) (.mk rfl rfl) F2) ?_)
          refine WQ.want rfl (WQ1.give rfl (g_pickT rfl (.mk rfl rfl) (.mk (v := .bool _) rfl rfl)) ?_)
          refine WQ.nil ?_
          (refine hK _ _ ?_; clear hK)
          refine WC.cond_true (.mk rfl rfl) ?_
          (refine WC.seq ?_; intro K hK)
          refine WC.region rfl ?_
          refine WL.want rfl (WL1.give rfl (g_move rfl (.mk (v := .int _ _) rfl rfl)) ?_)
          refine WL.want rfl (WL1.give rfl (g_assign rfl (.mk (v := .int _ _) rfl rfl)) ?_)
          refine WL.want rfl (WL1.give rfl (g_assign rfl (.mk (v := .int _ _) rfl rfl)) ?_)
          refine WL.nil ?_
          (refine hK _ _ ?_; clear hK)
          refine WC.ret ?_
          exact fun w' hw' => ⟨by rw [hloc, fnd_eq hlt (by rw [hP]; exact decide_eq_true ⟨q1, q2⟩) hpi]; rfl, hw'.1⟩
        · rw [decide_eq_false q2] at F2
          (refine WC.seq ?_; intro K hK)
          refine WC.region rfl ?_
          refine WL.want rfl (WL1.give rfl (g_lt rfl (.mk rfl rfl) (.mk rfl rfl) (decide_eq_true (by omega))) ?_)
          refine WL.nil ?_
          (refine hK _ _ ?_; clear hK)
          (refine WC.seq ?_; intro K hK)
          refine WC.cond_true (.mk rfl rfl) ?_
          refine WC.skip ?_
          (refine hK _ _ ?_; clear hK)
          (refine WC.seq ?_; intro K hK)
          refine WC.block ?_
          (refine WC.seq ?_; intro K hK)
          refine WC.region rfl ?_
          refine WL.want rfl (WL1.give rfl (g_move rfl (.mk (v := .int _ _) rfl rfl)) ?_)
          refine WL.want rfl (WL1.give rfl (g_assign rfl (.mk (v := .int _ _) rfl rfl)) ?_)
          refine WL.nil ?_
          (refine hK _ _ ?_; clear hK)
          (refine WC.seq ?_; intro K hK)
          refine WC.quiet rfl (by kernel_rfl) (by decide +kernel) ?_
          refine WQ.want rfl (WQ1.give rfl (g_move rfl (.mk (v := .slice _ _ _) rfl rfl)) ?_)
          refine WQ.want rfl (WQ1.give rfl (g_indexAddr (sz := 8) rfl (.mk rfl rfl) (.mk rfl rfl) rfl rfl (show _ = ((1 : Nat) : Int) from rfl) (by omega) (fun _ _ => rfl)) ?_)
          refine WQ.want rfl (WQ1.give rfl (g_loadA rfl (.mk rfl rfl) rfl (sz8 _) (rdr_vec (by repeat (first | exact .head _ | apply List.Mem.tail)) (by omega) g1)) ?_)
          refine WQ.want rfl (WQ1.give rfl (g_move rfl (.mk (v := .slice _ _ _) rfl rfl)) ?_)
          refine WQ.want rfl (WQ1.give rfl (g_indexAddr (sz := 8) rfl (.mk rfl rfl) (.mk rfl rfl) rfl rfl (show _ = ((0 : Nat) : Int) from rfl) (by omega) (fun _ _ => rfl)) ?_)
          refine WQ.want rfl (WQ1.give rfl (g_loadA rfl (.mk rfl rfl) rfl (sz8 _) (rdr_vec (by repeat (first | exact .head _ | apply List.Mem.tail)) (by omega) g0)) ?_)
          refine WQ.want rfl (WQ1.give rfl (g_move rfl (.mk (v := .int _ _) rfl rfl)) ?_)
          refine WQ.want rfl (WQ1.callP rfl rfl rfl (.cons (.mk (v := .int _ _) rfl rfl) .nil) (fun w hw => Calls.belowS (exp_j i (by omega) w)) ?_)
          refine WQ.want rfl (WQ1.callP rfl rfl rfl (.cons (.mk (v := .agg _) rfl rfl) (.cons (.mk (v := .int _ _) rfl rfl) .nil)) (fun w hw => times_e s0 (gpow 2 i) w) ?_)
          refine WQ.want rfl (WQ1.give rfl (g_aeq (by kernel_rfl) rfl (.mk rfl rfl) (.mk rfl rfl) F1) ?_)
          refine WQ.want rfl (WQ1.give rfl (g_move rfl (.mk (v := .bool _) rfl rfl)) ?_)
          refine WQ.wantG rfl rfl rfl rfl (WQ1.give rfl (g_move rfl (.mk (v := .slice _ _ _) rfl rfl)) ?_)
          refine WQ.wantG rfl rfl rfl rfl (WQ1.give rfl (g_indexAddr (sz := 8) rfl (.mk rfl rfl) (.mk rfl rfl) rfl rfl (show _ = ((2 : Nat) : Int) from rfl) (by omega) (fun _ _ => rfl)) ?_)
          refine WQ.wantG rfl rfl rfl rfl (WQ1.give rfl (g_loadA rfl (.mk rfl rfl) rfl (sz8 _) (rdr_vec (by repeat (first | exact .head _ | apply List.Mem.tail)) (by omega) g2)) ?_)
          refine WQ.wantG rfl rfl rfl rfl (WQ1.give rfl (g_move rfl (.mk (v := .slice _ _ _) rfl rfl)) ?_)
          refine WQ.wantG rfl rfl rfl rfl (WQ1.give rfl (g_indexAddr (sz := 8) rfl (.mk rfl rfl) (.mk rfl rfl) rfl rfl (show _ = ((0 : Nat) : Int) from rfl) (by omega) (fun _ _ => rfl)) ?_)
          refine WQ.wantG rfl rfl rfl rfl (WQ1.give rfl (g_loadA rfl (.mk rfl rfl) rfl (sz8 _) (rdr_vec (by repeat (first | exact .head _ | apply List.Mem.tail)) (by omega) g0)) ?_)
          refine WQ.wantG rfl rfl rfl rfl (WQ1.give rfl (g_move rfl (.mk (v := .int _ _) rfl rfl)) ?_)
          refine WQ.wantG rfl rfl rfl rfl (WQ1.give rfl (g_mul rfl (.mk rfl rfl) (.mk rfl rfl) hmul) ?_)
          refine WQ.wantG rfl rfl rfl rfl (WQ1.callP rfl rfl rfl (.cons (.mk (v := .int _ _) rfl rfl) .nil) (fun w hw => Calls.belowS (exp_j (2 * i) (by omega) w)) ?_)
          refine WQ.wantG rfl rfl rfl rfl (WQ1.callP rfl rfl rfl (.cons (.mk (v := .agg _) rfl rfl) (.cons (.mk (v := .int _ _) rfl rfl) .nil)) (fun w hw => times_e s0 (gpow 2 (2 * i)) w) ?_)
          refine WQ.wantG rfl rfl rfl rfl (WQ1.give rfl (g_aeq (by kernel_rfl) rfl (.mk rfl rfl) (.mk rfl rfl) F2) ?_)
          refine WQ.want rfl (WQ1.give rfl (g_pickT rfl (.mk rfl rfl) (.mk (v := .bool _) rfl rfl)) ?_)
          refine WQ.nil ?_
          (refine hK _ _ ?_; clear hK)
          refine WC.cond_false (.mk rfl rfl) ?_
          refine WC.skip ?_
          (refine hK _ _ ?_; clear hK)
          refine WC.region rfl ?_
          refine WL.want rfl (WL1.give rfl (g_add rfl (.mk rfl rfl) (.mk rfl rfl) (IntWalk.i64_in _ (by omega))) ?_)
          refine WL.want rfl (WL1.give rfl (g_move rfl (.mk (v := .int _ _) rfl rfl)) ?_)
          refine WL.nil ?_
          refine ⟨i + 1, (by repeat (first | exact trivial | refine ⟨rfl, ?_⟩)), .refl _, ⟨by omega, fun j hj => ?_⟩, by omega⟩
          by_cases e : j = i
          · rw [e, hP]; exact decide_eq_false fun h => q2 h.2
          · exact hpi j (by omega)
      · rw [decide_eq_false q1] at F1
        (refine WC.seq ?_; intro K hK)
        refine WC.region rfl ?_
        refine WL.want rfl (WL1.give rfl (g_lt rfl (.mk rfl rfl) (.mk rfl rfl) (decide_eq_true (by omega))) ?_)
        refine WL.nil ?_
        (refine hK _ _ ?_; clear hK)
        (refine WC.seq ?_; intro K hK)
        refine WC.cond_true (.mk rfl rfl) ?_
        refine WC.skip ?_
        (refine hK _ _ ?_; clear hK)
        (refine WC.seq ?_; intro K hK)
        refine WC.block ?_
        (refine WC.seq ?_; intro K hK)
        refine WC.region rfl ?_
        refine WL.want rfl (WL1.give rfl (g_move rfl (.mk (v := .int _ _) rfl rfl)) ?_)
        refine WL.want rfl (WL1.give rfl (g_assign rfl (.mk (v := .int _ _) rfl rfl)) ?_)
        refine WL.nil ?_
        (refine hK _ _ ?_; clear hK)
        (refine WC.seq ?_; intro K hK)
        refine WC.quiet rfl (by kernel_rfl) (by decide +kernel) ?_
        refine WQ.want rfl (WQ1.give rfl (g_move rfl (.mk (v := .slice _ _ _) rfl rfl)) ?_)
        refine WQ.want rfl (WQ1.give rfl (g_indexAddr (sz := 8) rfl (.mk rfl rfl) (.mk rfl rfl) rfl rfl (show _ = ((1 : Nat) : Int) from rfl) (by omega) (fun _ _ => rfl)) ?_)
        refine WQ.want rfl (WQ1.give rfl (g_loadA rfl (.mk rfl rfl) rfl (sz8 _) (rdr_vec (by repeat (first | exact .head _ | apply List.Mem.tail)) (by omega) g1)) ?_)
        refine WQ.want rfl (WQ1.give rfl (g_move rfl (.mk (v := .slice _ _ _) rfl rfl)) ?_)
        refine WQ.want rfl (WQ1.give rfl (g_indexAddr (sz := 8) rfl (.mk rfl rfl) (.mk rfl rfl) rfl rfl (show _ = ((0 : Nat) : Int) from rfl) (by omega) (fun _ _ => rfl)) ?_)
        refine WQ.want rfl (WQ1.give rfl (g_loadA rfl (.mk rfl rfl) rfl (sz8 _) (rdr_vec (by repeat (first | exact .head _ | apply List.Mem.tail)) (by omega) g0)) ?_)
        refine WQ.want rfl (WQ1.give rfl (g_move rfl (.mk (v := .int _ _) rfl rfl)) ?_)
        refine WQ.want rfl (WQ1.callP rfl rfl rfl (.cons (.mk (v := .int _ _) rfl rfl) .nil) (fun w hw => Calls.belowS (exp_j i (by omega) w)) ?_)
        refine WQ.want rfl (WQ1.callP rfl rfl rfl (.cons (.mk (v := .agg _) rfl rfl) (.cons (.mk (v := .int _ _) rfl rfl) .nil)) (fun w hw => times_e s0 (gpow 2 i) w) ?_)
        refine WQ.want rfl (WQ1.give rfl (g_aeq (by kernel_rfl) rfl (.mk rfl rfl) (.mk rfl rfl) F1) ?_)
        refine WQ.want rfl (WQ1.give rfl (g_move rfl (.mk (v := .bool _) rfl rfl)) ?_)
        refine WQ.skipG rfl rfl rfl rfl rfl rfl ?_
        refine WQ.skipG rfl rfl rfl rfl rfl rfl ?_
        refine WQ.skipG rfl rfl rfl rfl rfl rfl ?_
        refine WQ.skipG rfl rfl rfl rfl rfl rfl ?_
        refine WQ.skipG rfl rfl rfl rfl rfl rfl ?_
        refine WQ.skipG rfl rfl rfl rfl rfl rfl ?_
        refine WQ.skipG rfl rfl rfl rfl rfl rfl ?_
        refine WQ.skipG rfl rfl rfl rfl rfl rfl ?_
        refine WQ.skipG rfl rfl rfl rfl rfl rfl ?_
        refine WQ.skipG rfl rfl rfl rfl rfl rfl ?_
        refine WQ.skipG rfl rfl rfl rfl rfl rfl ?_
        refine WQ.want rfl (WQ1.give rfl (g_pickF rfl (.mk rfl rfl) (.mk (v := .bool _) rfl rfl)) ?_)
        refine WQ.nil ?_
        (refine hK _ _ ?_; clear hK)
        refine WC.cond_false (.mk rfl rfl) ?_
        refine WC.skip ?_
        (refine hK _ _ ?_; clear hK)
        refine WC.region rfl ?_
        refine WL.want rfl (WL1.give rfl (g_add rfl (.mk rfl rfl) (.mk rfl rfl) (IntWalk.i64_in _ (by omega))) ?_)
        refine WL.want rfl (WL1.give rfl (g_move rfl (.mk (v := .int _ _) rfl rfl)) ?_)
        refine WL.nil ?_
        refine ⟨i + 1, (by repeat (first | exact trivial | refine ⟨rfl, ?_⟩)), .refl _, ⟨by omega, fun j hj => ?_⟩, by omega⟩
        by_cases e : j = i
        · rw [e, hP]; exact decide_eq_false fun h => q1 h.1
        · exact hpi j (by omega)
    · obtain rfl : i = n := by omega
      (refine WC.seq ?_; intro K hK)
      refine WC.region rfl ?_
      refine WL.want rfl (WL1.give rfl (g_lt rfl (.mk rfl rfl) (.mk rfl rfl) (decide_eq_false (by omega))) ?_)
      refine WL.nil ?_
      (refine hK _ _ ?_; clear hK)
      (refine WC.seq ?_; intro K hK)
      refine WC.cond_false (.mk rfl rfl) ?_
      refine WC.exit ?_
      (clear hK; refine hK _ _ ?_; clear hK)
      (refine WC.seq ?_; intro K hK)
      refine WC.region rfl ?_
      refine WL.want rfl (WL1.give rfl (g_assign rfl (.mk (v := .int _ _) rfl rfl)) ?_)
      refine WL.want rfl (WL1.give rfl (g_assign rfl (.mk (v := .int _ _) rfl rfl)) ?_)
      refine WL.nil ?_
      (refine hK _ _ ?_; clear hK)
      refine WC.ret ?_
      exact fun w' hw' => ⟨by rw [hloc, fnd_all hpi]; rfl, hw'.1⟩
end Go.Proofs.Ytlcddlipcdimeaa
namespace Go.Proofs.Ytlcddlipcdimeaa
open Go.RowKit
theorem Blk.ne_at {e : Blk} (h : e ≠ 0) : ∃ t, t < 8 ∧ e.at t ≠ 0 := by
  refine Classical.byContradiction fun hn => h (Blk.ext_at fun t ht => ?_)
  rw [Blk.zero_at ht]
  exact Classical.byContradiction fun h2 => hn ⟨t, ht, h2⟩
theorem Blk.mul_cancel {c d : G} {e : Blk} (h : e ≠ 0) (hc : c * e = d * e) : c = d := by
  obtain ⟨t, ht, hn⟩ := Blk.ne_at h
  have : (c * e).at t = (d * e).at t := by rw [hc]
  rw [Blk.mul_at _ _ ht, Blk.mul_at _ _ ht, G.mul_comm c, G.mul_comm d] at this
  exact mul_left_cancel hn this
theorem Blk.mul_ne {c : G} {e : Blk} (hc : c ≠ 0) (h : e ≠ 0) : c * e ≠ 0 := fun hz => hc (Blk.mul_cancel h (by rw [hz, Blk.zero_mul]))
theorem bsum_one {n a : Nat} (ha : a < n) {f : Nat → Blk} (h : ∀ k, k < n → k ≠ a → f k = 0) : bsum n f = f a := by
  rw [bsum_take ha, bsum_zero fun k hk => ?_, Blk.add_zero]
  by_cases e : k = a
  · rw [if_pos e]
  · rw [if_neg e, h k hk e]
theorem syn_one {n a : Nat} (ha : a < n + 3) (x : Blk) (q : Nat) : syn n (fun k => if k = a then x else 0) q = col n q a * x := by
  exact (bsum_one ha (f := fun k => col n q k * (if k = a then x else 0)) (fun k _ hk => by show col n q k * (if k = a then x else 0) = 0; rw [if_neg hk, Blk.mul_zero])).trans (by show col n q a * (if a = a then x else 0) = _; rw [if_pos rfl])
theorem syn_congr {n q : Nat} {f g : Nat → Blk} (h : ∀ k, k < n + 3 → f k = g k) : syn n f q = syn n g q := bsum_congr fun k hk => by rw [h k hk]
/-- The syndromes are those of one wrong piece. -/
def Err1 (n : Nat) (s : Nat → Blk) (k : Nat) : Prop := ∃ e : Blk, e ≠ 0 ∧ ∀ q, q < 3 → s q = col n q k * e
theorem other {n a b : Nat} (h1 : 1 ≤ n) (_ha : a < n + 3) (_hb : b < n + 3) : ∃ c, c < n + 3 ∧ a ≠ c ∧ b ≠ c := by
  by_cases h0 : a ≠ 0 ∧ b ≠ 0
  · exact ⟨0, by omega, h0.1, h0.2⟩
  · by_cases h2 : a ≠ 1 ∧ b ≠ 1
    · exact ⟨1, by omega, h2.1, h2.2⟩
    · exact ⟨2, by omega, by omega, by omega⟩
theorem Err1.one {n : Nat} {s : Nat → Blk} (h1 : 1 ≤ n) (h2 : n ≤ 13) {a b : Nat} (ha : a < n + 3) (hb : b < n + 3) (p : Err1 n s a) (q : Err1 n s b) : a = b := by
  refine Classical.byContradiction fun hab => ?_
  obtain ⟨c, hc, hac, hbc⟩ := other h1 ha hb
  obtain ⟨e, he, hs⟩ := p
  obtain ⟨f, _, hs'⟩ := q
  exact he (mdsB h2 ha hb hc hab hac hbc (x := e) (y := f) (z := 0) fun r hr => by rw [← hs r hr, ← hs' r hr, Blk.mul_zero, Blk.add_zero, Blk.add_self])
theorem loc_none {n : Nat} {s0 s1 s2 : Blk} (h : s0 = 0 ∧ s1 = 0 ∧ s2 = 0) : locV n s0 s1 s2 = (0, 9) := if_pos h
theorem col_lt {n q k : Nat} (h : k < n) : col n q k = gpow 2 (q * k) := if_pos h
theorem col_at {n q : Nat} : col n q (n + q) = 1 := by unfold col; rw [if_neg (by omega), if_pos rfl]
theorem col_at0 {n : Nat} : col n 0 n = 1 := col_at (n := n) (q := 0)
theorem col_off {n q k : Nat} (h : ¬ k < n) (h2 : k ≠ n + q) : col n q k = 0 := by unfold col; rw [if_neg h, if_neg h2]
theorem loc_found {n : Nat} {s : Nat → Blk} (h2 : n ≤ 13) {k : Nat} (hk : k < n + 3) (h : Err1 n s k) : locV n (s 0) (s 1) (s 2) = ((k : Int), 0) := by
  obtain ⟨e, he, hs⟩ := h
  have q0 := hs 0 (by omega)
  have q1 := hs 1 (by omega)
  have q2 := hs 2 (by omega)
  by_cases hlt : k < n
  · rw [col_lt hlt] at q0 q1 q2
    rw [Nat.zero_mul, gpow_zero, Blk.one_mul] at q0
    have n0 : s 0 ≠ 0 := by rw [q0]; exact he
    have n1 : s 1 ≠ 0 := by rw [q1]; exact Blk.mul_ne (gpow_ne two_ne_zero _) he
    rw [locV, if_neg (fun h => n0 h.1), if_neg (fun h => n1 h.1), if_neg (fun h => n0 h.1), if_neg (fun h => n0 h.1), if_neg n0]
    rw [fnd_eq hlt (decide_eq_true ⟨by rw [q1, q0, Nat.one_mul], by rw [q2, q0]⟩) fun i hi => decide_eq_false fun hc => ?_]
    have e1 := hc.1
    rw [q1, q0, Nat.one_mul] at e1
    exact absurd (gpow_two_inj (by omega) (by omega) (Blk.mul_cancel he e1)) (by omega)
  · by_cases e0 : k = n
    · subst e0
      rw [col_at0, Blk.one_mul] at q0
      rw [col_off (by omega) (by omega), Blk.zero_mul] at q1 q2
      rw [locV, if_neg (fun h => he (by rw [← q0]; exact h.1)), if_pos ⟨q1, q2⟩]
    · by_cases e1 : k = n + 1
      · subst e1
        rw [col_at, Blk.one_mul] at q1
        rw [col_off (by omega) (by omega), Blk.zero_mul] at q0 q2
        have n1 : s 1 ≠ 0 := by rw [q1]; exact he
        rw [locV, if_neg (fun h => n1 h.2.1), if_neg (fun h => n1 h.1), if_pos ⟨q0, q2⟩]
      · have e2 : k = n + 2 := by omega
        subst e2
        rw [col_at, Blk.one_mul] at q2
        rw [col_off (by omega) (by omega), Blk.zero_mul] at q0 q1
        have n2 : s 2 ≠ 0 := by rw [q2]; exact he
        rw [locV, if_neg (fun h => n2 h.2.2), if_neg (fun h => n2 h.2), if_neg (fun h => n2 h.2), if_pos ⟨q0, q1⟩]
theorem three_q {p : Nat → Prop} (h0 : p 0) (h1 : p 1) (h2 : p 2) : ∀ q, q < 3 → p q := fun q hq => by
  rcases (by omega : q = 0 ∨ q = 1 ∨ q = 2) with rfl | rfl | rfl <;> assumption
theorem loc_lost {n : Nat} {s : Nat → Blk} (hz : ¬ (s 0 = 0 ∧ s 1 = 0 ∧ s 2 = 0)) (h : ∀ k, k < n + 3 → ¬ Err1 n s k) : locV n (s 0) (s 1) (s 2) = (0, 12) := by
  rw [locV, if_neg hz]
  by_cases a : s 1 = 0 ∧ s 2 = 0
  · exact absurd ⟨s 0, fun e => hz ⟨e, a⟩, three_q (by rw [col_at0, Blk.one_mul]) (by rw [col_off (by omega) (by omega), Blk.zero_mul]; exact a.1) (by rw [col_off (by omega) (by omega), Blk.zero_mul]; exact a.2)⟩ (h n (by omega))
  · rw [if_neg a]
    by_cases b : s 0 = 0 ∧ s 2 = 0
    · exact absurd ⟨s 1, fun e => hz ⟨b.1, e, b.2⟩, three_q (by rw [col_off (by omega) (by omega), Blk.zero_mul]; exact b.1) (by rw [col_at, Blk.one_mul]) (by rw [col_off (by omega) (by omega), Blk.zero_mul]; exact b.2)⟩ (h (n + 1) (by omega))
    · rw [if_neg b]
      by_cases c : s 0 = 0 ∧ s 1 = 0
      · exact absurd ⟨s 2, fun e => hz ⟨c.1, c.2, e⟩, three_q (by rw [col_off (by omega) (by omega), Blk.zero_mul]; exact c.1) (by rw [col_off (by omega) (by omega), Blk.zero_mul]; exact c.2) (by rw [col_at, Blk.one_mul])⟩ (h (n + 2) (by omega))
      · rw [if_neg c]
        by_cases d : s 0 = 0
        · rw [if_pos d]
        · rw [if_neg d]
          cases e : fnd (fun i => decide (s 1 = gpow 2 i * s 0 ∧ s 2 = gpow 2 (2 * i) * s 0)) n with
          | none => rfl
          | some i =>
            obtain ⟨hi, hp, _⟩ := fnd_some e
            have hp := of_decide_eq_true hp
            exact absurd ⟨s 0, d, three_q (by rw [col_lt hi, Nat.zero_mul, gpow_zero, Blk.one_mul]) (by rw [col_lt hi, Nat.one_mul]; exact hp.1) (by rw [col_lt hi]; exact hp.2)⟩ (h i (by omega))
/-- What another content of a piece does to the syndromes. -/
theorem syn_piece {n : Nat} {ps : List Blk} (hl : ps.length = n + 3) {i : Nat} (hi : i < n + 3) (x : Blk) (q : Nat) : syn n (nth (ps.set i (nth ps i + x))) q = syn n (nth ps) q + col n q i * x := by
  rw [← syn_one hi, ← syn_add]
  refine syn_congr fun k hk => ?_
  rw [nth_set_eq (by omega)]
  by_cases e : k = i
  · rw [if_pos e, if_pos e, e]
  · rw [if_neg e, if_neg e, Blk.add_zero]
/-- One bad piece. -/
def oneB (m i : Nat) : List Bool := (List.replicate m false).set i true
theorem oneB_len (m i : Nat) : (oneB m i).length = m := by simp [oneB]
theorem oneB_nth {m i k : Nat} (hi : i < m) : nth (oneB m i) k = decide (k = i) := by
  unfold oneB
  rw [nth_set_eq (by simpa using hi)]
  by_cases e : k = i
  · rw [if_pos e, decide_eq_true e]
  · rw [if_neg e, decide_eq_false e]
    by_cases h : k < m
    · rw [nth_eq (by simpa using h)]; simp
    · unfold nth; rw [List.getD_eq_getElem?_getD, List.getElem?_eq_none (by simpa using h)]; rfl
theorem oneB_cnt {m i : Nat} (hi : i < m) : ∀ k, cnt (oneB m i) k ≤ 1 ∧ (k ≤ i → cnt (oneB m i) k = 0)
  | 0 => ⟨by show 0 ≤ 1; omega, fun _ => rfl⟩
  | k + 1 => by
    obtain ⟨h1, h2⟩ := oneB_cnt hi k
    have hs : cnt (oneB m i) (k + 1) = cnt (oneB m i) k + if nth (oneB m i) k then 1 else 0 := rfl
    rw [oneB_nth hi] at hs
    by_cases e : k = i
    · rw [decide_eq_true e, if_pos rfl, h2 (by omega)] at hs
      exact ⟨by omega, fun h => by omega⟩
    · rw [decide_eq_false e] at hs
      have hs : cnt (oneB m i) (k + 1) = cnt (oneB m i) k := hs
      exact ⟨by omega, fun h => by rw [hs]; exact h2 (by omega)⟩
/-- A group without one of its pieces becomes consistent just where this piece alone is wrong. -/
theorem dec_one {n : Nat} {ps : List Blk} (hl : ps.length = n + 3) (h1 : 1 ≤ n) (h2 : n ≤ 13) {i : Nat} (hi : i < n + 3) (hz : ¬ ∀ q, q < 3 → syn n (nth ps) q = 0) : (∀ q, q < 3 → syn n (nth (decL ps (oneB (n + 3) i) n)) q = 0) ↔ Err1 n (syn n (nth ps)) i := by
  have hc : cnt (oneB (n + 3) i) (n + 3) ≤ 3 := Nat.le_trans (oneB_cnt hi _).1 (by omega)
  have hk : ∀ k, k < n + 3 → k ≠ i → nth (decL ps (oneB (n + 3) i) n) k = nth ps k := fun k hk e => by
    rw [decL_nth _ _ _ hk, oneB_nth hi, decide_eq_false e, if_neg Bool.false_ne_true]
  constructor
  · intro h
    obtain ⟨x, hx⟩ : ∃ x, x = nth ps i + nth (decL ps (oneB (n + 3) i) n) i := ⟨_, rfl⟩
    have hs : ∀ q, q < 3 → syn n (nth ps) q = col n q i * x := fun q hq => by
      have e : syn n (nth (decL ps (oneB (n + 3) i) n)) q = syn n (nth (ps.set i (nth ps i + x))) q := syn_congr fun k hk' => by
        rw [nth_set_eq (by omega)]
        by_cases e : k = i
        · rw [if_pos e, hx, e, ← Blk.add_assoc, Blk.add_self, Blk.zero_add]
        · rw [if_neg e, hk k hk' e]
      rw [syn_piece hl hi, h q hq] at e
      exact Blk.add_cancel e.symm
    refine ⟨x, fun hx0 => hz fun q hq => by rw [hs q hq, hx0, Blk.mul_zero], hs⟩
  · rintro ⟨x, hx, hs⟩
    obtain ⟨ps', hp'⟩ : ∃ ps', ps' = ps.set i (nth ps i + x) := ⟨_, rfl⟩
    have hl' : ps'.length = n + 3 := by rw [hp', List.length_set, hl]
    have hs' : ∀ q, q < 3 → syn n (nth ps') q = 0 := fun q hq => by rw [hp', syn_piece hl hi, hs q hq, Blk.add_self]
    have hg : isGroup ps' = true := (isGroup_syn hl' (by omega) (by omega)).2 hs'
    rw [← isGroup_same hl' (by omega) (by omega)] at hg
    have hg := of_decide_eq_true hg
    have htl : (ps'.take n).length = n := by rw [List.length_take]; omega
    have := decL_group (bs := oneB (n + 3) i) (ps := ps) htl h1 h2 hc fun k hk' hb => by
      rw [oneB_nth hi] at hb
      rw [← hg, hp', nth_set_eq (by omega), if_neg (of_decide_eq_false hb)]
    rw [← hg] at this
    rw [this]
    exact hs'
end Go.Proofs.Ytlcddlipcdimeaa
namespace Go.Proofs.Ytlcddlipcdimeaa
open Go.RowKit
set_option maxHeartbeats 1000000 in
theorem rfused_any (v1 v2 : Value) (dst src : List G) (c : G) (w : World) (hlen : dst.length = src.length) (hsz : dst.length ≤ 1000000) (h1 : Sl w 1 v1 dst.length (bvs dst)) (h2 : Sl w 1 v2 src.length (bvs src)) :
    Calls Try.prog 34 #[v1, v2, bv c] w fun e w' => ∃ v, e = .returned v ∧
      w'.ownsRow w.heap.size 5 1 v dst.length (bvs (gfused dst src c)) ∧ Below w.heap.size w w' := by
  obtain ⟨A1, c1, rfl, hc1, hm1, h1⟩ := h1.open_
  obtain ⟨A2, c2, rfl, hc2, hm2, h2⟩ := h2.open_
  obtain ⟨n, hn⟩ : ∃ n, n = dst.length := ⟨_, rfl⟩
  rw [← hlen, ← hn] at h2
  rw [← hn] at h1
  have H : dst.length = n ∧ src.length = n := ⟨hn.symm, by omega⟩
  rw [← hlen, ← hn]
  clear hlen
  have HL := Lib.hid H
  rw [← hn] at hsz
  clear hn H
  have HF : Hid ((gfused dst src c).length = n) := by show _ = _; rw [gfused_length _ _ _ (by rw [HL.out.1, HL.out.2]), HL.out.1]
  go_enter Try.func34, Try.ntmps34
  go_wp2
  go_loopw [7, 8] (fun v i wr => ∃ k : Nat, k ≤ n ∧ i = iv k ∧ wr.ownsRow w.heap.size 5 1 v k (bvs ((gfused dst src c).take k)) ∧ Below w.heap.size w wr) (fun _ i _ => n - (intOf i).toNat)
  case atStart => exact ⟨0, by omega, rfl, World.ownsRow_nil _ _ _ _, Below.refl _ _⟩
  case round =>
    obtain ⟨k, hk, rfl, hown1, hbel⟩ := hrel
    by_cases hlt : k < n
    · obtain ⟨ad1, u1, rfl, hu1, hl1, hx1⟩ := h1.at_ hlt
      obtain ⟨ad2, u2, rfl, hu2, hl2, hx2⟩ := h2.at_ hlt
      have hd : k < dst.length := by rw [HL.out.1]; exact hlt
      have hs : k < src.length := by rw [HL.out.2]; exact hlt
      obtain rfl : bv dst[k] = u1 := by simpa [bvs, List.getElem?_map, List.getElem?_eq_getElem hd] using hu1
      obtain rfl : bv src[k] = u2 := by simpa [bvs, List.getElem?_map, List.getElem?_eq_getElem hs] using hu2
      have hy1 := (hbel.cell (by rw [addBlock]; exact hl1)).trans hx1
      have hy2 := (hbel.cell (by rw [addBlock]; exact hl2)).trans hx2
      have exor := G.add_val dst[k] (c * src[k])
      have HT := Lib.hid (gfused_take dst src c k hd hs)
      clear hx1 hx2 h1 h2 hu1 hu2
      go_wp2_with (fail)
      have hlt2 : ad1.block < wr.heap.size ∧ ad2.block < wr.heap.size := ⟨Nat.lt_of_lt_of_le hl1 hbel.size, Nat.lt_of_lt_of_le hl2 hbel.size⟩
      go_region_held3 (fun W => W.cell? (ad1.add k) = some (bv dst[k]) ∧ W.cell? (ad2.add k) = some (bv src[k]))
        (first | exact ⟨hy1, hy2⟩ | exact ⟨(World.cell?_alloc_lt _ _ _ (by simp [addBlock]; omega)).trans hy1, (World.cell?_alloc_lt _ _ _ (by simp [addBlock]; omega)).trans hy2⟩ | exact ⟨(hb2.cell (by rw [addBlock]; exact hl1)).trans ((World.cell?_alloc_lt _ _ _ (by simp [addBlock]; omega)).trans hy1), (hb2.cell (by rw [addBlock]; exact hl2)).trans ((World.cell?_alloc_lt _ _ _ (by simp [addBlock]; omega)).trans hy2)⟩)
        (first
          | (go_at_call 53; refine (rmul_any _ _ _).mono ?_; rintro e w' ⟨rfl, rfl⟩)
          | (refine step_append elB rfl _ _ rfl w.heap.size _ k _ rfl ((hown1.drew).alloc _) _ 1 _ rfl (Sl.lit _ _ _ 1 1 rfl (by unfold maxLen; omega)) (one_cell_bv _) (by unfold maxLen; omega) (by omega) (by have := hbel.size; simp; omega) ?_; intro v' w2 hown2 _ _ hb2))
      go_wp2_with (fail)
      have hbw2 : Below w.heap.size w w2 := (hbel.drew.alloc hbel.size _).trans hb2
      have hown3 : w2.ownsRow w.heap.size 5 1 v' (k + 1) (bvs ((gfused dst src c).take (k + 1))) := by rw [HT.out, bvs_append]; exact hown2
      clear hown2 hb2 hown1
      go_roundw
      case rel => exact ⟨k + 1, by omega, by go_num, hown3, hbw2⟩
      case measure => simp [intOf]; omega
    · obtain rfl : k = n := by omega
      have hfin := hown1
      rw [List.take_of_length_le (by rw [HF.out]; omega)] at hfin
      have HO := Lib.hid hfin
      clear hfin hown1
      go_wp2_with (fail)
      go_ret
      exact ⟨_, rfl, HO.out, hbel⟩
end Go.Proofs.Ytlcddlipcdimeaa
namespace Go.Proofs.Ytlcddlipcdimeaa
open Go.RowKit
/-- The element with the number k. -/
def gOf (k : Nat) : G := ⟨k % 256, Nat.mod_lt _ (by omega)⟩
theorem gOf_val {k : Nat} (h : k < 256) : (gOf k).val = k := Nat.mod_eq_of_lt h
theorem gOf_of (a : G) : gOf a.val = a := G.eq_of (gOf_val a.lt)
/-- Whether an element has an inverse. -/
def gnz (a : G) : Bool := decide (a ≠ 0)
set_option maxRecDepth 20000 in
set_option maxHeartbeats 400000 in
theorem rinv_any (a : G) (w : World) :
    Calls Try.prog 33 #[bv a] w fun e w' => e = .returned (.tuple #[bv (ginv a), .bool (gnz a)]) ∧ w = w' := by
  go_enter Try.func33, Try.ntmps33
  go_wp2
  go_loop [4] (fun k1 => ∃ k : Nat, 1 ≤ k ∧ k ≤ 256 ∧ (∀ j, 1 ≤ j → j < k → a * gOf j ≠ 1) ∧ k1 = iv k) (fun k1 => (256 - intOf k1).toNat)
  case atStart => exact ⟨1, by omega, by omega, fun j h1 h2 => absurd h1 (by omega), rfl⟩
  case round =>
    obtain ⟨k, hk1, hk2, hno, rfl⟩ := hrel
    have HNO := Lib.hid hno
    clear hno
    by_cases hlt : k < 256
    · obtain ⟨g, rfl⟩ : ∃ g : G, g.val = k := ⟨gOf k, gOf_val hlt⟩
      by_cases hm : a * g = 1
      · have e1 : (((a * g).val : Int) == 1) = true := by rw [hm]; rfl
        have hfin : Ending.returned (.tuple #[.int .u8 (g.val : Int), .bool true]) = .returned (.tuple #[bv (ginv a), .bool (gnz a)]) := by
          have ha : a ≠ 0 := fun e => by rw [e, G.zero_mul] at hm; exact one_ne_zero hm.symm
          rw [← ginv_unique hm, gnz, decide_eq_true ha]
        have HF := Lib.hid hfin
        clear hfin hm
        go_wp2_with (go_at_call 53; refine (rmul_any a g _).mono ?_; rintro e w' ⟨rfl, rfl⟩)
        go_ret2
        exact ⟨HF.out, rfl⟩
      · have e1 : (((a * g).val : Int) == 1) = false := by
          rw [beq_eq_false_iff_ne]
          exact fun e => hm (G.eq_of (by rw [G.val_one]; omega))
        have HM := Lib.hid hm
        clear hm
        go_wp2_with (go_at_call 53; refine (rmul_any a g _).mono ?_; rintro e w' ⟨rfl, rfl⟩)
        go_round
        case rel =>
          refine ⟨g.val + 1, by omega, by omega, fun j h1 h2 => ?_, by go_num⟩
          by_cases hj : j = g.val
          · rw [hj, gOf_of]; exact HM.out
          · exact HNO.out j h1 (by omega)
        case measure => simp [intOf]; omega
    · have hz : a = 0 := by
        by_cases ha : a = 0
        · exact ha
        · have hgi := ginv_ne ha
          have hv : (ginv a).val ≠ 0 := fun e => hgi (G.eq_of e)
          have := HNO.out (ginv a).val (by omega) (by have := (ginv a).lt; omega)
          rw [gOf_of, mul_ginv ha] at this
          exact absurd rfl this
      have HZ := Lib.hid hz
      clear hz
      go_wp2_with (fail)
      go_ret2
      refine ⟨?_, rfl⟩
      rw [HZ.out, ginv_zero]
      rfl
end Go.Proofs.Ytlcddlipcdimeaa
namespace Go.Proofs.Ytlcddlipcdimeaa
open Go.RowKit
attribute [local irreducible] Calls
theorem rfused_m {v1 v2 : Value} {dst src : List G} {c : G} {f : List G} {m : Nat} (w : World) (hf : f = gfused dst src c) (hd : dst.length = m) (hs : src.length = m) (hm : m ≤ 1000000) (h1 : Sl w 1 v1 m (bvs dst)) (h2 : Sl w 1 v2 m (bvs src)) : Calls Try.prog 34 #[v1, v2, bv c] w fun e w2 => ∃ v M, e = .returned v ∧ H w M w2 ∧ ∃ A cc, v = .slice A m cc ∧ M = [vec A m cc 5 1 (bvs f)] :=
  (rfused_any v1 v2 dst src c w (by omega) (by omega) (by rw [hd]; exact h1) (by rw [hs]; exact h2)).mono fun e w2 ⟨v, he, ho, hb⟩ => by
    subst hf
    obtain ⟨A, cc, rfl, hH⟩ := own_n ho hb
    exact ⟨_, _, he, hH, A, cc, by rw [hd], by rw [hd]⟩
theorem rinv_c (a : G) (h : a ≠ 0) (w : World) : Calls Try.prog 33 #[bv a] w fun e w' => e = .returned (.tuple #[bv (ginv a), .bool true]) ∧ w' = w :=
  (rinv_any a w).mono fun _ _ ⟨h1, h2⟩ => ⟨by rw [h1, gnz, decide_eq_true h], h2.symm⟩
theorem mapv_snoc (ro : List Row) (r : Row) : ro.map Row.v ++ [r.v] = (ro ++ [r]).map Row.v := by rw [List.map_append]; rfl
theorem bvs_snoc (l : List G) (g : G) : bvs l ++ [bv g] = bvs (l ++ [g]) := by unfold bvs; rw [List.map_append]; rfl
def rowG (n p : Nat) : List G := (List.range n).map (gen n p)
theorem rowG_len (n p : Nat) : (rowG n p).length = n := by simp [rowG]
theorem rowG_at {n p i : Nat} (h : i < n) : nth (rowG n p) i = gen n p i := nth_range _ h
def rowGP (n p i : Nat) : List G := (List.range n).map fun q => if q < i then gen n p q else 0
theorem rowGP_len (n p i : Nat) : (rowGP n p i).length = n := by simp [rowGP]
theorem rowGP_zero (n p : Nat) : List.replicate n (0 : G) = rowGP n p 0 := by
  refine list_ext_nth (by simp [rowGP]) fun k hk => ?_
  have hk' : k < n := by simpa using hk
  rw [rowGP, nth_range _ hk', if_neg (by omega), nth_eq hk]
  simp
theorem rowGP_all (n p : Nat) : rowGP n p n = rowG n p := List.map_congr_left fun q hq => if_pos (by simpa using hq)
theorem rowGP_set {n p i : Nat} (h : i < n) : (rowGP n p i).set i (gen n p i) = rowGP n p (i + 1) :=
  list_ext_nth (by rw [List.length_set, rowGP_len, rowGP_len]) fun q hq => by
    have hq3 : q < n := by rw [List.length_set, rowGP_len] at hq; exact hq
    rw [nth_set_eq (by rw [rowGP_len]; exact h), rowGP, rowGP, nth_range _ hq3, nth_range _ hq3]
    by_cases e : q = i
    · subst e; rw [if_pos rfl, if_pos (by omega)]
    · rw [if_neg e]
      by_cases e2 : q < i
      · rw [if_pos e2, if_pos (by omega)]
      · rw [if_neg e2, if_neg (by omega)]
theorem rowGP_same {n p i : Nat} (h : i < n) (h0 : gen n p i = 0) : rowGP n p i = rowGP n p (i + 1) := by
  rw [← rowGP_set h, h0]
  refine (set_self (by rw [rowGP_len]; exact h) ?_).symm
  rw [rowGP, nth_range _ h, if_neg (by omega)]
theorem rowGP_put {n p i q : Nat} {v : Value} (h : i < n) (hq : q = i) (hv : v = bv (gen n p i)) : (bvs (rowGP n p i)).set q v = bvs (rowGP n p (i + 1)) := by rw [hq, hv, bvs_set, rowGP_set h]
set_option maxRecDepth 20000 in
set_option maxHeartbeats 2000000 in
theorem rrow_n (m n p : Nat) (w : World) (hm : m = n + 3) (h2 : n ≤ 13) (hp : p < m) : Calls Try.prog 32 #[iv m, iv p] w fun e w' => ∃ v' M, e = .returned v' ∧ H w M w' ∧ ∃ b, v' = .slice (some ⟨b, 0, none⟩) n n ∧ M = [vec (some ⟨b, 0, none⟩) n n 5 1 (bvs (rowG n p))] := by
  have hsub : IntKind.i64.wrap ((m : Int) - 3) = (n : Int) := by rw [IntWalk.i64_in _ (by omega)]; omega
  refine calls_wc (args := [iv m, iv p]) [4] [] Try.func32 rfl Try.ntmps32 rfl rfl rfl rfl (H.refl w) ?_
  (refine WC.seq ?_; intro K hK)
  refine WC.region rfl ?_
  refine WL.want rfl (WL1.give rfl (g_assign rfl (.mk (v := .slice _ _ _) rfl rfl)) ?_)
  refine WL.nil ?_
  (refine hK _ _ ?_; clear hK)
  (refine WC.seq ?_; intro K hK)
  refine WC.region rfl ?_
  refine WL.want rfl (WL1.give rfl (g_move rfl (.mk (v := .int _ _) rfl rfl)) ?_)
  refine WL.want rfl (WL1.give rfl (g_sub rfl (.mk rfl rfl) (.mk rfl rfl) hsub) ?_)
  refine WL.want rfl (WL1.make elB rfl rfl (.mk rfl rfl) (.mk rfl rfl) rfl rfl (by omega) (by unfold maxLen; omega) (fun b9 => ?_))
  refine WL.want rfl (WL1.give rfl (g_assign rfl (.mk (v := .slice _ _ _) rfl rfl)) ?_)
  refine WL.nil ?_
  (refine hK _ _ ?_; clear hK)
  (refine WC.seq ?_; intro K hK)
  (refine WC.seq ?_; intro K hK)
  refine WC.region rfl ?_
  refine WL.want rfl (WL1.give rfl (g_assign rfl (.mk (v := .int _ _) rfl rfl)) ?_)
  refine WL.nil ?_
  (refine hK _ _ ?_; clear hK)
  refine WC.block ?_
  refine WC.loop (68719475776) (fun i : Nat => [(6, iv i)]) (fun i => [vec (some ⟨b9, 0, none⟩) n n 5 1 (bvs (rowGP n p i))]) (fun i => i ≤ n) (fun i => n - i) 0 ⟨rfl, trivial⟩ (by rw [← rowGP_zero, ← madeU]; exact .refl _) (by omega) ?_
  intro i U hi
  have hbl : (bvs (rowGP n p i)).length = n := by unfold bvs; rw [List.length_map, rowGP_len]
  by_cases hlt : i < n
  · by_cases hpn : p < n
    · by_cases he : i = p
      · (refine WC.seq ?_; intro K hK)
        (refine WC.seq ?_; intro K hK)
        refine WC.region rfl ?_
        refine WL.want rfl (WL1.give rfl (g_move rfl (.mk (v := .int _ _) rfl rfl)) ?_)
        refine WL.want rfl (WL1.give rfl (g_move rfl (.mk (v := .slice _ _ _) rfl rfl)) ?_)
        refine WL.want rfl (WL1.give rfl (g_len rfl (.mk rfl rfl) rfl) ?_)
        refine WL.want rfl (WL1.give rfl (g_lt rfl (.mk rfl rfl) (.mk rfl rfl) (decide_eq_true (by omega))) ?_)
        refine WL.nil ?_
        (refine hK _ _ ?_; clear hK)
        refine WC.cond_true (.mk rfl rfl) ?_
        refine WC.skip ?_
        (refine hK _ _ ?_; clear hK)
        (refine WC.seq ?_; intro K hK)
        refine WC.block ?_
        (refine WC.seq ?_; intro K hK)
        refine WC.region rfl ?_
        refine WL.want rfl (WL1.give rfl (g_move rfl (.mk (v := .int _ _) rfl rfl)) ?_)
        refine WL.want rfl (WL1.give rfl (g_move rfl (.mk (v := .int _ _) rfl rfl)) ?_)
        refine WL.want rfl (WL1.give rfl (g_sub rfl (.mk rfl rfl) (.mk rfl rfl) hsub) ?_)
        refine WL.want rfl (WL1.give rfl (g_lt rfl (.mk rfl rfl) (.mk rfl rfl) (decide_eq_true (by omega))) ?_)
        refine WL.nil ?_
        (refine hK _ _ ?_; clear hK)
        refine WC.cond_true (.mk rfl rfl) ?_
        (refine WC.seq ?_; intro K hK)
        refine WC.region rfl ?_
        refine WL.want rfl (WL1.give rfl (g_move rfl (.mk (v := .int _ _) rfl rfl)) ?_)
        refine WL.want rfl (WL1.give rfl (g_move rfl (.mk (v := .int _ _) rfl rfl)) ?_)
        refine WL.want rfl (WL1.give rfl (g_eq rfl (.mk rfl rfl) (.mk rfl rfl) (decide_eq_true (by omega))) ?_)
        refine WL.nil ?_
        (refine hK _ _ ?_; clear hK)
        refine WC.cond_true (.mk rfl rfl) ?_
        refine WC.region rfl ?_
        refine WL.want rfl (WL1.give rfl (g_move rfl (.mk (v := .slice _ _ _) rfl rfl)) ?_)
        refine WL.want rfl (WL1.give rfl (g_move rfl (.mk (v := .int _ _) rfl rfl)) ?_)
        refine WL.want rfl (WL1.give rfl (g_indexAddr (sz := 1) rfl (.mk rfl rfl) (.mk rfl rfl) rfl rfl rfl (by omega) (fun _ _ => rfl)) ?_)
        refine WL.want rfl (WL1.storeV1 rfl rfl (.mk rfl rfl) (.mk (v := .int _ _) rfl rfl) rfl rfl (by first | omega | (simp; done) | (simp; omega)) (.head) ?_)
        refine WL.nil ?_
        (refine hK _ _ ?_; clear hK)
        refine WC.region rfl ?_
        refine WL.want rfl (WL1.give rfl (g_move rfl (.mk (v := .int _ _) rfl rfl)) ?_)
        refine WL.want rfl (WL1.give rfl (g_add rfl (.mk rfl rfl) (.mk rfl rfl) (IntWalk.i64_in _ (by omega))) ?_)
        refine WL.want rfl (WL1.give rfl (g_assign rfl (.mk (v := .int _ _) rfl rfl)) ?_)
        refine WL.nil ?_
        exact ⟨i + 1, (by repeat (first | with_reducible exact Out.refl _ _ | refine Out.set rfl ?_ | refine Out.put rfl ?_ | refine Out.sets rfl ?_ | refine Out.hav rfl ?_ | exact Out.refl _ _)), ⟨rfl, trivial⟩, subV (rowGP_put hlt (by omega) (by unfold gen; rw [if_pos hpn, he, dlt_self]; rfl)) (.refl _), by omega, by omega⟩
      · (refine WC.seq ?_; intro K hK)
        (refine WC.seq ?_; intro K hK)
        refine WC.region rfl ?_
        refine WL.want rfl (WL1.give rfl (g_move rfl (.mk (v := .int _ _) rfl rfl)) ?_)
        refine WL.want rfl (WL1.give rfl (g_move rfl (.mk (v := .slice _ _ _) rfl rfl)) ?_)
        refine WL.want rfl (WL1.give rfl (g_len rfl (.mk rfl rfl) rfl) ?_)
        refine WL.want rfl (WL1.give rfl (g_lt rfl (.mk rfl rfl) (.mk rfl rfl) (decide_eq_true (by omega))) ?_)
        refine WL.nil ?_
        (refine hK _ _ ?_; clear hK)
        refine WC.cond_true (.mk rfl rfl) ?_
        refine WC.skip ?_
        (refine hK _ _ ?_; clear hK)
        (refine WC.seq ?_; intro K hK)
        refine WC.block ?_
        (refine WC.seq ?_; intro K hK)
        refine WC.region rfl ?_
        refine WL.want rfl (WL1.give rfl (g_move rfl (.mk (v := .int _ _) rfl rfl)) ?_)
        refine WL.want rfl (WL1.give rfl (g_move rfl (.mk (v := .int _ _) rfl rfl)) ?_)
        refine WL.want rfl (WL1.give rfl (g_sub rfl (.mk rfl rfl) (.mk rfl rfl) hsub) ?_)
        refine WL.want rfl (WL1.give rfl (g_lt rfl (.mk rfl rfl) (.mk rfl rfl) (decide_eq_true (by omega))) ?_)
        refine WL.nil ?_
        (refine hK _ _ ?_; clear hK)
        refine WC.cond_true (.mk rfl rfl) ?_
        (refine WC.seq ?_; intro K hK)
        refine WC.region rfl ?_
        refine WL.want rfl (WL1.give rfl (g_move rfl (.mk (v := .int _ _) rfl rfl)) ?_)
        refine WL.want rfl (WL1.give rfl (g_move rfl (.mk (v := .int _ _) rfl rfl)) ?_)
        refine WL.want rfl (WL1.give rfl (g_eq rfl (.mk rfl rfl) (.mk rfl rfl) (decide_eq_false (by omega))) ?_)
        refine WL.nil ?_
        (refine hK _ _ ?_; clear hK)
        refine WC.cond_false (.mk rfl rfl) ?_
        refine WC.skip ?_
        (refine hK _ _ ?_; clear hK)
        refine WC.region rfl ?_
        refine WL.want rfl (WL1.give rfl (g_move rfl (.mk (v := .int _ _) rfl rfl)) ?_)
        refine WL.want rfl (WL1.give rfl (g_add rfl (.mk rfl rfl) (.mk rfl rfl) (IntWalk.i64_in _ (by omega))) ?_)
        refine WL.want rfl (WL1.give rfl (g_assign rfl (.mk (v := .int _ _) rfl rfl)) ?_)
        refine WL.nil ?_
        exact ⟨i + 1, (by repeat (first | with_reducible exact Out.refl _ _ | refine Out.set rfl ?_ | refine Out.put rfl ?_ | refine Out.sets rfl ?_ | refine Out.hav rfl ?_ | exact Out.refl _ _)), ⟨rfl, trivial⟩, by rw [← rowGP_same hlt (by unfold gen; rw [if_pos hpn]; exact dlt_ne fun h => he h.symm)]; exact .refl _, by omega, by omega⟩
    · have hji : i * (p - n) ≤ 39 := Nat.le_trans (Nat.mul_le_mul (by omega : i ≤ 13) (by omega : p - n ≤ 3)) (by omega)
      have hmul : IntKind.i64.wrap (((p : Int) - (m : Int) + 3) * (i : Int)) = ((i * (p - n) : Nat) : Int) := by
        rw [show (p : Int) - (m : Int) + 3 = ((p - n : Nat) : Int) from by omega, ← Int.natCast_mul, Nat.mul_comm]; exact IntWalk.i64_in _ (by omega)
      have hpw : ∀ w, Calls Try.prog 52 #[bv 2, iv (i * (p - n) : Nat)] w fun e w' => e = .returned (bv (gpow 2 (i * (p - n)))) ∧ w' = w := fun w => (rpower_any 2 (i * (p - n) : Nat) (by omega) w).mono fun _ _ ⟨h1, h2⟩ => ⟨by rw [h1, Int.toNat_natCast], h2.symm⟩
      have hgen : gen n p i = gpow 2 (i * (p - n)) := by unfold gen; rw [if_neg hpn]
      (refine WC.seq ?_; intro K hK)
      (refine WC.seq ?_; intro K hK)
      refine WC.region rfl ?_
      refine WL.want rfl (WL1.give rfl (g_move rfl (.mk (v := .int _ _) rfl rfl)) ?_)
      refine WL.want rfl (WL1.give rfl (g_move rfl (.mk (v := .slice _ _ _) rfl rfl)) ?_)
      refine WL.want rfl (WL1.give rfl (g_len rfl (.mk rfl rfl) rfl) ?_)
      refine WL.want rfl (WL1.give rfl (g_lt rfl (.mk rfl rfl) (.mk rfl rfl) (decide_eq_true (by omega))) ?_)
      refine WL.nil ?_
      (refine hK _ _ ?_; clear hK)
      refine WC.cond_true (.mk rfl rfl) ?_
      refine WC.skip ?_
      (refine hK _ _ ?_; clear hK)
      (refine WC.seq ?_; intro K hK)
      refine WC.block ?_
      (refine WC.seq ?_; intro K hK)
      refine WC.region rfl ?_
      refine WL.want rfl (WL1.give rfl (g_move rfl (.mk (v := .int _ _) rfl rfl)) ?_)
      refine WL.want rfl (WL1.give rfl (g_move rfl (.mk (v := .int _ _) rfl rfl)) ?_)
      refine WL.want rfl (WL1.give rfl (g_sub rfl (.mk rfl rfl) (.mk rfl rfl) hsub) ?_)
      refine WL.want rfl (WL1.give rfl (g_lt rfl (.mk rfl rfl) (.mk rfl rfl) (decide_eq_false (by omega))) ?_)
      refine WL.nil ?_
      (refine hK _ _ ?_; clear hK)
      refine WC.cond_false (.mk rfl rfl) ?_
      refine WC.region rfl ?_
      refine WL.want rfl (WL1.give rfl (g_move rfl (.mk (v := .slice _ _ _) rfl rfl)) ?_)
      refine WL.want rfl (WL1.give rfl (g_move rfl (.mk (v := .int _ _) rfl rfl)) ?_)
      refine WL.want rfl (WL1.give rfl (g_move rfl (.mk (v := .int _ _) rfl rfl)) ?_)
      refine WL.want rfl (WL1.give rfl (g_move rfl (.mk (v := .int _ _) rfl rfl)) ?_)
      refine WL.want rfl (WL1.give rfl (g_sub rfl (.mk rfl rfl) (.mk rfl rfl) (IntWalk.i64_in _ (by omega))) ?_)
      refine WL.want rfl (WL1.give rfl (g_add rfl (.mk rfl rfl) (.mk rfl rfl) (IntWalk.i64_in _ (by omega))) ?_)
      refine WL.want rfl (WL1.give rfl (g_move rfl (.mk (v := .int _ _) rfl rfl)) ?_)
      refine WL.want rfl (WL1.give rfl (g_mul rfl (.mk rfl rfl) (.mk rfl rfl) hmul) ?_)
      refine WL.want rfl (WL1.callP rfl rfl rfl (.cons (.mk (v := .int _ _) rfl rfl) (.cons (.mk (v := .int _ _) rfl rfl) .nil)) (fun w hw => Calls.belowS (hpw w)) ?_)
      refine WL.want rfl (WL1.give rfl (g_indexAddr (sz := 1) rfl (.mk rfl rfl) (.mk rfl rfl) rfl rfl rfl (by omega) (fun _ _ => rfl)) ?_)
      refine WL.want rfl (WL1.storeV1 rfl rfl (.mk rfl rfl) (.mk (v := .int _ _) rfl rfl) rfl rfl (by first | omega | (simp; done) | (simp; omega)) (.head) ?_)
      refine WL.nil ?_
      (refine hK _ _ ?_; clear hK)
      refine WC.region rfl ?_
      refine WL.want rfl (WL1.give rfl (g_move rfl (.mk (v := .int _ _) rfl rfl)) ?_)
      refine WL.want rfl (WL1.give rfl (g_add rfl (.mk rfl rfl) (.mk rfl rfl) (IntWalk.i64_in _ (by omega))) ?_)
      refine WL.want rfl (WL1.give rfl (g_assign rfl (.mk (v := .int _ _) rfl rfl)) ?_)
      refine WL.nil ?_
      exact ⟨i + 1, (by repeat (first | with_reducible exact Out.refl _ _ | refine Out.set rfl ?_ | refine Out.put rfl ?_ | refine Out.sets rfl ?_ | refine Out.hav rfl ?_ | exact Out.refl _ _)), ⟨rfl, trivial⟩, subV (rowGP_put hlt (by omega) (by rw [hgen])) (.refl _), by omega, by omega⟩
  · obtain rfl : i = n := by omega
    (refine WC.seq ?_; intro K hK)
    (refine WC.seq ?_; intro K hK)
    refine WC.region rfl ?_
    refine WL.want rfl (WL1.give rfl (g_move rfl (.mk (v := .int _ _) rfl rfl)) ?_)
    refine WL.want rfl (WL1.give rfl (g_move rfl (.mk (v := .slice _ _ _) rfl rfl)) ?_)
    refine WL.want rfl (WL1.give rfl (g_len rfl (.mk rfl rfl) rfl) ?_)
    refine WL.want rfl (WL1.give rfl (g_lt rfl (.mk rfl rfl) (.mk rfl rfl) (decide_eq_false (by omega))) ?_)
    refine WL.nil ?_
    (refine hK _ _ ?_; clear hK)
    refine WC.cond_false (.mk rfl rfl) ?_
    refine WC.exit ?_
    (clear hK; refine hK _ _ ?_; clear hK)
    (refine WC.seq ?_; intro K hK)
    refine WC.region rfl ?_
    refine WL.want rfl (WL1.give rfl (g_move rfl (.mk (v := .slice _ _ _) rfl rfl)) ?_)
    refine WL.want rfl (WL1.give rfl (g_assign rfl (.mk (v := .slice _ _ _) rfl rfl)) ?_)
    refine WL.nil ?_
    (refine hK _ _ ?_; clear hK)
    refine WC.ret ?_
    exact fun w' hw' => ⟨_, _, rfl, hw', b9, rfl, by rw [rowGP_all]⟩
set_option maxRecDepth 20000 in
set_option maxHeartbeats 20000000 in
theorem rweights_n (v : Value) (m n to : Nat) (fr : List Nat) (w : World) (hv : Sl w 1 v fr.length (ldv fr)) (hm : m = n + 3) (h1 : 1 ≤ n) (h2 : n ≤ 13) (hH : Helps n fr) (hto : to < m) :
    Calls Try.prog 14 #[iv m, v, iv to] w fun e w' => ∃ v' M, e = .returned v' ∧ H w M w' ∧ ∃ A c, v' = .slice A n c ∧ M = [vec A n c 5 1 (bvs (wts n fr to))] := by
  obtain ⟨A, c, rfl, hcc, hmm, hs⟩ := hv.open_
  have hfl := hH.len
  have hsub : IntKind.i64.wrap ((m : Int) - 3) = (n : Int) := by rw [IntWalk.i64_in _ (by omega)]; omega
  refine calls_wc (args := [iv m, .slice A fr.length c, iv to]) [6] [] Try.func14 rfl Try.ntmps14 rfl rfl rfl rfl (H.refl w) ?_
  (refine WC.seq ?_; intro K hK)
  refine WC.region rfl ?_
  refine WL.want rfl (WL1.give rfl (g_assign rfl (.mk (v := .slice _ _ _) rfl rfl)) ?_)
  refine WL.nil ?_
  (refine hK _ _ ?_; clear hK)
  (refine WC.seq ?_; intro K hK)
  refine WC.region rfl ?_
  refine WL.want rfl (WL1.give rfl (g_move rfl (.mk (v := .int _ _) rfl rfl)) ?_)
  refine WL.want rfl (WL1.give rfl (g_sub rfl (.mk rfl rfl) (.mk rfl rfl) hsub) ?_)
  refine WL.want rfl (WL1.give rfl (g_assign rfl (.mk (v := .int _ _) rfl rfl)) ?_)
  refine WL.nil ?_
  (refine hK _ _ ?_; clear hK)
  (refine WC.seq ?_; intro K hK)
  refine WC.region rfl ?_
  refine WL.want rfl (WL1.give rfl (g_assign rfl (.mk (v := .slice _ _ _) rfl rfl)) ?_)
  refine WL.nil ?_
  (refine hK _ _ ?_; clear hK)
  (refine WC.seq ?_; intro K hK)
  refine WC.region rfl ?_
  refine WL.want rfl (WL1.give rfl (g_move rfl (.mk (v := .int _ _) rfl rfl)) ?_)
  refine WL.want rfl (WL1.give rfl (g_move rfl (.mk (v := .int _ _) rfl rfl)) ?_)
  (refine WL.want rfl (WL1.callN rfl rfl rfl (.cons (.mk (v := .int _ _) rfl rfl) (.cons (.mk (v := .int _ _) rfl rfl) .nil)) (fun w hw => rrow_n m n to w hm h2 hto) ?_); rintro _ _ ⟨bt, rfl, rfl⟩)
  refine WL.want rfl (WL1.give rfl (g_assign rfl (.mk (v := .slice _ _ _) rfl rfl)) ?_)
  refine WL.nil ?_
  (refine hK _ _ ?_; clear hK)
  (refine WC.seq ?_; intro K hK)
  (refine WC.seq ?_; intro K hK)
  refine WC.region rfl ?_
  refine WL.want rfl (WL1.give rfl (g_assign rfl (.mk (v := .int _ _) rfl rfl)) ?_)
  refine WL.nil ?_
  (refine hK _ _ ?_; clear hK)
  refine WC.block ?_
  refine WC.nilvec 24 1 ?_
  refine WC.loopF4 (fun (i : Nat) (O : Option Addr) (oc : Nat) (ro : List Row) => [(10, iv i), (8, .slice O i oc), (0, iv m), (1, .slice A fr.length c), (7, iv n), (9, .slice (some ⟨bt, 0, none⟩) n n)]) (fun i O oc ro => [vec O i oc 24 1 (ro.map Row.v), rowsA ro, vec (some ⟨bt, 0, none⟩) n n 5 1 (bvs (rowG n to))]) (fun i _ _ ro => i ≤ n ∧ ro.length = i ∧ els ro = (eqM n fr to).take i) (fun i _ _ _ => n - i) 0 none 0 [] (by repeat (first | exact trivial | refine ⟨rfl, ?_⟩)) (Imp.cons (Imp.trans (Imp.rows_nil _) (Imp.sub (by repeat (first | exact List.nil_sublist _ | exact List.Sublist.refl _ | apply List.Sublist.cons_cons | apply List.Sublist.cons))))) ⟨by omega, rfl, rfl⟩ ?_
  rintro i O oc ro U ⟨hi, hrl, hre⟩
  by_cases hlt : i < n
  · (refine WC.seq ?_; intro K hK)
    (refine WC.seq ?_; intro K hK)
    refine WC.region rfl ?_
    refine WL.want rfl (WL1.give rfl (g_move rfl (.mk (v := .int _ _) rfl rfl)) ?_)
    refine WL.want rfl (WL1.give rfl (g_move rfl (.mk (v := .int _ _) rfl rfl)) ?_)
    refine WL.want rfl (WL1.give rfl (g_lt rfl (.mk rfl rfl) (.mk rfl rfl) (decide_eq_true (by omega))) ?_)
    refine WL.nil ?_
    (refine hK _ _ ?_; clear hK)
    refine WC.cond_true (.mk rfl rfl) ?_
    refine WC.skip ?_
    (refine hK _ _ ?_; clear hK)
    (refine WC.seq ?_; intro K hK)
    refine WC.block ?_
    (refine WC.seq ?_; intro K hK)
    refine WC.region rfl ?_
    refine WL.want rfl (WL1.give rfl (g_assign rfl (.mk (v := .slice _ _ _) rfl rfl)) ?_)
    refine WL.nil ?_
    (refine hK _ _ ?_; clear hK)
    (refine WC.seq ?_; intro K hK)
    (refine WC.seq ?_; intro K hK)
    refine WC.region rfl ?_
    refine WL.want rfl (WL1.give rfl (g_assign rfl (.mk (v := .int _ _) rfl rfl)) ?_)
    refine WL.nil ?_
    (refine hK _ _ ?_; clear hK)
    refine WC.block ?_
    refine WC.nilvec 5 1 ?_
    obtain ⟨er, her⟩ : ∃ er, er = (List.range n).map (fun k => gen n (nth fr k) i) := ⟨_, rfl⟩
    have herl : er.length = n := by rw [her]; simp
    refine WC.loopF3 (fun (k : Nat) (D : Option Addr) (dc : Nat) => [(12, iv k), (11, .slice D k dc), (8, .slice O i oc), (10, iv i), (0, iv m), (1, .slice A fr.length c), (7, iv n), (9, .slice (some ⟨bt, 0, none⟩) n n)]) (fun k D dc => [vec D k dc 5 1 (bvs (er.take k)), vec O i oc 24 1 (ro.map Row.v), rowsA ro, vec (some ⟨bt, 0, none⟩) n n 5 1 (bvs (rowG n to))]) (fun k _ _ => k ≤ n) (fun k _ _ => n - k) 0 none 0 (by repeat (first | exact trivial | refine ⟨rfl, ?_⟩)) (.refl _) (by omega) ?_
    intro k D dc V hk
    by_cases hlt2 : k < n
    · have hgv := ldv_get (ld := fr) (k := k) (by omega)
      have hfk := hH.lt k hlt2
      have hgl := rowG_len n (nth fr k)
      have htk : er.take (k + 1) = er.take k ++ [nth (rowG n (nth fr k)) i] := by
        rw [take_succ_nth (by omega), rowG_at hlt, her, nth_range _ hlt2]
      (refine WC.seq ?_; intro K hK)
      (refine WC.seq ?_; intro K hK)
      refine WC.region rfl ?_
      refine WL.want rfl (WL1.give rfl (g_move rfl (.mk (v := .int _ _) rfl rfl)) ?_)
      refine WL.want rfl (WL1.give rfl (g_move rfl (.mk (v := .int _ _) rfl rfl)) ?_)
      refine WL.want rfl (WL1.give rfl (g_lt rfl (.mk rfl rfl) (.mk rfl rfl) (decide_eq_true (by omega))) ?_)
      refine WL.nil ?_
      (refine hK _ _ ?_; clear hK)
      refine WC.cond_true (.mk rfl rfl) ?_
      refine WC.skip ?_
      (refine hK _ _ ?_; clear hK)
      (refine WC.seq ?_; intro K hK)
      refine WC.block ?_
      refine WC.region rfl ?_
      refine WL.want rfl (WL1.give rfl (g_move rfl (.mk (v := .slice _ _ _) rfl rfl)) ?_)
      refine WL.want rfl (WL1.give rfl (g_move rfl (.mk (v := .int _ _) rfl rfl)) ?_)
      refine WL.want rfl (WL1.give rfl (g_move rfl (.mk (v := .slice _ _ _) rfl rfl)) ?_)
      refine WL.want rfl (WL1.give rfl (g_move rfl (.mk (v := .int _ _) rfl rfl)) ?_)
      refine WL.want rfl (WL1.give rfl (g_indexAddr (sz := 1) rfl (.mk rfl rfl) (.mk rfl rfl) rfl rfl rfl (by omega) (fun _ _ => sl_some hs (by omega))) ?_)
      refine WL.want rfl (WL1.give rfl (g_load rfl (.mk rfl rfl) rfl (rd_sl hs hgv)) ?_)
      (refine WL.want rfl (WL1.callN rfl rfl rfl (.cons (.mk (v := .int _ _) rfl rfl) (.cons (.mk (v := .int _ _) rfl rfl) .nil)) (fun w hw => rrow_n m n (nth fr k) w hm h2 (by omega)) ?_); rintro _ _ ⟨br, rfl, rfl⟩)
      refine WL.want rfl (WL1.give rfl (g_move rfl (.mk (v := .int _ _) rfl rfl)) ?_)
      refine WL.want rfl (WL1.give rfl (g_indexAddr (sz := 1) rfl (.mk rfl rfl) (.mk rfl rfl) rfl rfl rfl (by omega) (fun _ _ => rfl)) ?_)
      refine WL.want rfl (WL1.give rfl (g_load rfl (.mk rfl rfl) rfl (rd_vec (.head _) (get1 (by omega)))) ?_)
      refine WL.want rfl (WL1.lit (cs := [_]) elB rfl rfl rfl (.cons (.mk (v := .int _ _) rfl rfl) .nil) rfl (by first | (simp [Value.cells]; done) | fail) rfl rfl (fun b45 => ?_))
      refine WL.want rfl (WL1.append elB rfl rfl (.mk rfl rfl) (.mk rfl rfl) (.tail (.tail (.head))) (fun w hw => Sl.of_vec hw (.head _)) (all1 rfl) (by unfold maxLen; omega) (by omega) (fun A46 c46 => ?_))
      refine WL.want rfl (WL1.give rfl (g_assign rfl (.mk (v := .slice _ _ _) rfl rfl)) ?_)
      refine WL.nil ?_
      (refine hK _ _ ?_; clear hK)
      refine WC.region rfl ?_
      refine WL.want rfl (WL1.give rfl (g_move rfl (.mk (v := .int _ _) rfl rfl)) ?_)
      refine WL.want rfl (WL1.give rfl (g_add rfl (.mk rfl rfl) (.mk rfl rfl) (IntWalk.i64_in _ (by omega))) ?_)
      refine WL.want rfl (WL1.give rfl (g_assign rfl (.mk (v := .int _ _) rfl rfl)) ?_)
      refine WL.nil ?_
      exact ⟨k + 1, _, _, (by repeat (first | exact trivial | refine ⟨rfl, ?_⟩)), by rw [htk, ← bvs_snoc]; exact Imp.cons (Imp.sub (by repeat (first | exact List.nil_sublist _ | exact List.Sublist.refl _ | apply List.Sublist.cons_cons | apply List.Sublist.cons))), by omega, by omega⟩
    · obtain rfl : k = n := by omega
      have hgl := rowG_len k to
      have htl : er.take k = er := List.take_of_length_le (by omega)
      rw [htl]
      have hul : (er ++ [nth (rowG k to) i]).length = k + 1 := by rw [List.length_append, herl]; rfl
      have heq : nth (eqM k fr to) i = er ++ [nth (rowG k to) i] := by rw [eqM_row _ _ hlt, her, rowG_at hlt]
      (refine WC.seq ?_; intro K hK)
      (refine WC.seq ?_; intro K hK)
      refine WC.region rfl ?_
      refine WL.want rfl (WL1.give rfl (g_move rfl (.mk (v := .int _ _) rfl rfl)) ?_)
      refine WL.want rfl (WL1.give rfl (g_move rfl (.mk (v := .int _ _) rfl rfl)) ?_)
      refine WL.want rfl (WL1.give rfl (g_lt rfl (.mk rfl rfl) (.mk rfl rfl) (decide_eq_false (by omega))) ?_)
      refine WL.nil ?_
      (refine hK _ _ ?_; clear hK)
      refine WC.cond_false (.mk rfl rfl) ?_
      refine WC.exit ?_
      (clear hK; refine hK _ _ ?_; clear hK)
      refine WC.region rfl ?_
      refine WL.want rfl (WL1.give rfl (g_move rfl (.mk (v := .slice _ _ _) rfl rfl)) ?_)
      refine WL.want rfl (WL1.give rfl (g_move rfl (.mk (v := .slice _ _ _) rfl rfl)) ?_)
      refine WL.want rfl (WL1.give rfl (g_move rfl (.mk (v := .slice _ _ _) rfl rfl)) ?_)
      refine WL.want rfl (WL1.give rfl (g_move rfl (.mk (v := .int _ _) rfl rfl)) ?_)
      refine WL.want rfl (WL1.give rfl (g_indexAddr (sz := 1) rfl (.mk rfl rfl) (.mk rfl rfl) rfl rfl rfl (by omega) (fun _ _ => rfl)) ?_)
      refine WL.want rfl (WL1.give rfl (g_load rfl (.mk rfl rfl) rfl (rd_vec (.tail _ (.tail _ (.tail _ (.head _)))) (get1 (by omega)))) ?_)
      refine WL.want rfl (WL1.lit (cs := [_]) elB rfl rfl rfl (.cons (.mk (v := .int _ _) rfl rfl) .nil) rfl (by first | (simp [Value.cells]; done) | fail) rfl rfl (fun b53 => ?_))
      refine WL.want rfl (WL1.append elB rfl rfl (.mk rfl rfl) (.mk rfl rfl) (.tail (.head)) (fun w hw => Sl.of_vec hw (.head _)) (all1 rfl) (by unfold maxLen; omega) (by omega) (fun A54 c54 => ?_))
      refine WL.want rfl (WL1.lit (cs := [_]) elR rfl rfl rfl (.cons (.mk (v := .slice _ _ _) rfl rfl) .nil) rfl (by first | (simp [Value.cells]; done) | fail) rfl rfl (fun b55 => ?_))
      refine WL.want rfl (WL1.append elR rfl rfl (.mk rfl rfl) (.mk rfl rfl) (.tail (.tail (.tail (.head)))) (fun w hw => Sl.of_vec hw (.head _)) (all1 rfl) (by unfold maxLen; omega) (by omega) (fun A56 c56 => ?_))
      refine WL.want rfl (WL1.give rfl (g_assign rfl (.mk (v := .slice _ _ _) rfl rfl)) ?_)
      refine WL.nil ?_
      (refine hK _ _ ?_; clear hK)
      refine WC.region rfl ?_
      refine WL.want rfl (WL1.give rfl (g_move rfl (.mk (v := .int _ _) rfl rfl)) ?_)
      refine WL.want rfl (WL1.give rfl (g_add rfl (.mk rfl rfl) (.mk rfl rfl) (IntWalk.i64_in _ (by omega))) ?_)
      refine WL.want rfl (WL1.give rfl (g_assign rfl (.mk (v := .int _ _) rfl rfl)) ?_)
      refine WL.nil ?_
      refine ⟨i + 1, _, _, ro ++ [⟨A54, c54, er ++ [nth (rowG k to) i]⟩], (by repeat (first | exact trivial | refine ⟨rfl, ?_⟩)), ?_, ⟨by omega, by rw [List.length_append, hrl]; rfl, by rw [els_add, hre, take_succ_nth (by rw [eqM_len]; exact hlt), heq]⟩, by omega⟩
      rw [bvs_snoc, own_of hul, v_of hul, mapv_snoc]
      refine Imp.trans (Imp.add2 (rs := ro) (r := ⟨A54, c54, er ++ [nth (rowG k to) i]⟩) (by repeat (first | exact .head | apply Take.tail)) (by repeat (first | exact .head | apply Swap.tail))) ?_
      exact Imp.pick (by repeat (first | exact .head | apply Take.tail)) (Imp.pick (by repeat (first | exact .head | apply Take.tail)) (Imp.pick (by repeat (first | exact .head | apply Take.tail)) (Imp.nil _)))
  · obtain rfl : i = n := by omega
    have hre' : els ro = eqM i fr to := by rw [hre]; exact List.take_of_length_le (by rw [eqM_len]; exact Nat.le_refl _)
    clear hre
    obtain ⟨W, hW⟩ : ∃ W, W = nth (wts i fr to) := ⟨_, rfl⟩
    have hI0 := eqM_inv hH h1 h2 to
    rw [← hW] at hI0
    (refine WC.seq ?_; intro K hK)
    (refine WC.seq ?_; intro K hK)
    refine WC.region rfl ?_
    refine WL.want rfl (WL1.give rfl (g_move rfl (.mk (v := .int _ _) rfl rfl)) ?_)
    refine WL.want rfl (WL1.give rfl (g_move rfl (.mk (v := .int _ _) rfl rfl)) ?_)
    refine WL.want rfl (WL1.give rfl (g_lt rfl (.mk rfl rfl) (.mk rfl rfl) (decide_eq_false (by omega))) ?_)
    refine WL.nil ?_
    (refine hK _ _ ?_; clear hK)
    refine WC.cond_false (.mk rfl rfl) ?_
    refine WC.exit ?_
    (clear hK; refine hK _ _ ?_; clear hK)
    (refine WC.seq ?_; intro K hK)
    (refine WC.seq ?_; intro K hK)
    refine WC.region rfl ?_
    refine WL.want rfl (WL1.give rfl (g_assign rfl (.mk (v := .int _ _) rfl rfl)) ?_)
    refine WL.nil ?_
    (refine hK _ _ ?_; clear hK)
    refine WC.block ?_
    refine WC.loopF3 (fun (c : Nat) (a : List (List G)) (rs : List Row) => [(13, iv c), (7, iv i), (8, .slice O i oc)]) (fun c a rs => [vec O i oc 24 1 (rs.map Row.v), rowsA rs]) (fun c a rs => c ≤ i ∧ rs.length = i ∧ els rs = a ∧ RInv W a i c) (fun c _ _ => i - c) 0 (eqM i fr to) ro (by repeat (first | exact trivial | refine ⟨rfl, ?_⟩)) (Imp.sub (by repeat (first | exact List.nil_sublist _ | exact List.Sublist.refl _ | apply List.Sublist.cons_cons | apply List.Sublist.cons))) ⟨by omega, hrl, hre', hI0⟩ ?_
    clear hre' hrl ro
    rintro c a rs U2 ⟨hc, hrl, hre, hI⟩
    by_cases hlt2 : c < i
    · obtain ⟨N, hN⟩ : ∃ N, N = i + 1 := ⟨_, rfl⟩
      have hadN : IntKind.i64.wrap ((i : Int) + 1) = (N : Int) := (IntWalk.i64_in _ (by omega)).trans (by omega)
      obtain ⟨q, hq⟩ := rpvt hI hlt2
      obtain ⟨hcq, hsw, hpc, hI2⟩ := rstp_inv hI hlt2 hq
      obtain ⟨hq1, hq2, hq3⟩ := fnd_some hq
      have hrow2 : ∀ p, p < i → (nth rs p).l.length = N := fun p hp => by rw [els_row hre (by omega), hN]; exact hI.shp.2 p hp
      have hmapl : (rs.map Row.v).length = i := by rw [List.length_map, hrl]
      (refine WC.seq ?_; intro K hK)
      (refine WC.seq ?_; intro K hK)
      refine WC.region rfl ?_
      refine WL.want rfl (WL1.give rfl (g_move rfl (.mk (v := .int _ _) rfl rfl)) ?_)
      refine WL.want rfl (WL1.give rfl (g_move rfl (.mk (v := .int _ _) rfl rfl)) ?_)
      refine WL.want rfl (WL1.give rfl (g_lt rfl (.mk rfl rfl) (.mk rfl rfl) (decide_eq_true (by omega))) ?_)
      refine WL.nil ?_
      (refine hK _ _ ?_; clear hK)
      refine WC.cond_true (.mk rfl rfl) ?_
      refine WC.skip ?_
      (refine hK _ _ ?_; clear hK)
      (refine WC.seq ?_; intro K hK)
      refine WC.block ?_
      (refine WC.seq ?_; intro K hK)
      refine WC.region rfl ?_
      refine WL.want rfl (WL1.give rfl (g_move rfl (.mk (v := .int _ _) rfl rfl)) ?_)
      refine WL.want rfl (WL1.give rfl (g_assign rfl (.mk (v := .int _ _) rfl rfl)) ?_)
      refine WL.nil ?_
      (refine hK _ _ ?_; clear hK)
      (refine WC.seq ?_; intro K hK)
      refine WC.block ?_
      refine WC.loopF (fun p : Nat => [(14, iv p), (13, iv c), (7, iv i), (8, .slice O i oc)]) (fun _ => [vec O i oc 24 1 (rs.map Row.v), rowsA rs]) (fun p => c ≤ p ∧ p ≤ c + q) (fun p => c + q - p) c (by repeat (first | exact trivial | refine ⟨rfl, ?_⟩)) (.refl _) ⟨Nat.le_refl _, by omega⟩ ?_
      rintro p U3 ⟨hp1, hp2⟩
      have hrp := hrow2 p (by omega)
      by_cases hlt3 : p < c + q
      · have hz0 : ((nth (nth rs p).l c).val : Int) = 0 := by
          have := nz_f.1 (hq3 (p - c) (by omega))
          rw [show c + (p - c) = p from by omega] at this
          rw [el_row (by omega), hre, this]; rfl
        (refine WC.seq ?_; intro K hK)
        (refine WC.seq ?_; intro K hK)
        refine WC.region rfl ?_
        refine WL.want rfl (WL1.give rfl (g_move rfl (.mk (v := .slice _ _ _) rfl rfl)) ?_)
        refine WL.want rfl (WL1.give rfl (g_move rfl (.mk (v := .int _ _) rfl rfl)) ?_)
        refine WL.want rfl (WL1.give rfl (g_indexAddr (sz := 1) rfl (.mk rfl rfl) (.mk rfl rfl) rfl rfl rfl (by omega) (fun w hw => vec_some hw (.head _) (by omega))) ?_)
        refine WL.want rfl (WL1.give rfl (g_load rfl (.mk rfl rfl) rfl (rd_vec (.head _) (get1 (by omega)))) ?_)
        refine WL.want rfl (WL1.give rfl (g_move rfl (.mk (v := .int _ _) rfl rfl)) ?_)
        refine WL.want rfl (WL1.give rfl (g_indexAddr (sz := 1) rfl (.mk rfl rfl) (.mk rfl rfl) rfl rfl rfl (by omega) (rowA_some (.tail _ (.head _)) (by omega) (by omega))) ?_)
        refine WL.want rfl (WL1.give rfl (g_load rfl (.mk rfl rfl) rfl (rd_rowA (.tail _ (.head _)) (by omega) (by omega))) ?_)
        refine WL.want rfl (WL1.give rfl (g_eq rfl (.mk rfl rfl) (.mk rfl rfl) (decide_eq_true (by omega))) ?_)
        refine WL.nil ?_
        (refine hK _ _ ?_; clear hK)
        refine WC.cond_true (.mk rfl rfl) ?_
        refine WC.skip ?_
        (refine hK _ _ ?_; clear hK)
        refine WC.block ?_
        refine WC.region rfl ?_
        refine WL.want rfl (WL1.give rfl (g_move rfl (.mk (v := .int _ _) rfl rfl)) ?_)
        refine WL.want rfl (WL1.give rfl (g_add rfl (.mk rfl rfl) (.mk rfl rfl) (IntWalk.i64_in _ (by omega))) ?_)
        refine WL.want rfl (WL1.give rfl (g_assign rfl (.mk (v := .int _ _) rfl rfl)) ?_)
        refine WL.nil ?_
        exact ⟨p + 1, (by repeat (first | exact trivial | refine ⟨rfl, ?_⟩)), .refl _, by omega, by omega⟩
      · obtain rfl : p = c + q := by omega
        have hz0 : ¬ ((nth (nth rs (c + q)).l c).val : Int) = 0 := by
          have := nz_t.1 hq2
          rw [el_row (by omega), hre]
          intro h
          exact this (G.eq_of (by rw [G.val_zero]; omega))
        (refine WC.seq ?_; intro K hK)
        (refine WC.seq ?_; intro K hK)
        refine WC.region rfl ?_
        refine WL.want rfl (WL1.give rfl (g_move rfl (.mk (v := .slice _ _ _) rfl rfl)) ?_)
        refine WL.want rfl (WL1.give rfl (g_move rfl (.mk (v := .int _ _) rfl rfl)) ?_)
        refine WL.want rfl (WL1.give rfl (g_indexAddr (sz := 1) rfl (.mk rfl rfl) (.mk rfl rfl) rfl rfl rfl (by omega) (fun w hw => vec_some hw (.head _) (by omega))) ?_)
        refine WL.want rfl (WL1.give rfl (g_load rfl (.mk rfl rfl) rfl (rd_vec (.head _) (get1 (by omega)))) ?_)
        refine WL.want rfl (WL1.give rfl (g_move rfl (.mk (v := .int _ _) rfl rfl)) ?_)
        refine WL.want rfl (WL1.give rfl (g_indexAddr (sz := 1) rfl (.mk rfl rfl) (.mk rfl rfl) rfl rfl rfl (by omega) (rowA_some (.tail _ (.head _)) (by omega) (by omega))) ?_)
        refine WL.want rfl (WL1.give rfl (g_load rfl (.mk rfl rfl) rfl (rd_rowA (.tail _ (.head _)) (by omega) (by omega))) ?_)
        refine WL.want rfl (WL1.give rfl (g_eq rfl (.mk rfl rfl) (.mk rfl rfl) (decide_eq_false (by omega))) ?_)
        refine WL.nil ?_
        (refine hK _ _ ?_; clear hK)
        refine WC.cond_false (.mk rfl rfl) ?_
        refine WC.exit ?_
        (clear hK; refine hK _ _ ?_; clear hK)
        refine WC.seqF (fun _ : List Row => [(13, iv c), (7, iv i), (8, .slice O i oc)]) (fun r1 => [vec O i oc 24 1 (r1.map Row.v), rowsA r1]) (fun r1 => r1.length = i ∧ els r1 = swp a c (c + q)) ?_ (fun r1 V hr1 => ?_)
        refine WC.untilL [13, 14, 15] rfl (by kernel_rfl) ?_
        refine WB.takeP 0 rfl (by decide +kernel) (by decide +kernel) (by decide +kernel) (by decide +kernel) rfl rfl (.inr (Imp.sub (by first | ((repeat (first | exact List.nil_sublist _ | exact List.Sublist.refl _ | apply List.Sublist.cons_cons | apply List.Sublist.cons)); done) | fail))) (g_move rfl (.mk (v := .slice _ _ _) rfl rfl)) ?_
        refine WB.takeP 1 rfl (by decide +kernel) (by decide +kernel) (by decide +kernel) (by decide +kernel) rfl rfl (.inr (Imp.sub (by first | ((repeat (first | exact List.nil_sublist _ | exact List.Sublist.refl _ | apply List.Sublist.cons_cons | apply List.Sublist.cons)); done) | fail))) (g_move rfl (.mk (v := .int _ _) rfl rfl)) ?_
        refine WB.takeP 2 rfl (by decide +kernel) (by decide +kernel) (by decide +kernel) (by decide +kernel) rfl rfl (.inr (Imp.sub (by first | ((repeat (first | exact List.nil_sublist _ | exact List.Sublist.refl _ | apply List.Sublist.cons_cons | apply List.Sublist.cons)); done) | fail))) (g_move rfl (.mk (v := .slice _ _ _) rfl rfl)) ?_
        refine WB.takeP 3 rfl (by decide +kernel) (by decide +kernel) (by decide +kernel) (by decide +kernel) rfl rfl (.inr (Imp.sub (by first | ((repeat (first | exact List.nil_sublist _ | exact List.Sublist.refl _ | apply List.Sublist.cons_cons | apply List.Sublist.cons)); done) | fail))) (g_move rfl (.mk (v := .int _ _) rfl rfl)) ?_
        refine WB.takeP 4 rfl (by decide +kernel) (by decide +kernel) (by decide +kernel) (by decide +kernel) rfl rfl (.inr (Imp.sub (by first | ((repeat (first | exact List.nil_sublist _ | exact List.Sublist.refl _ | apply List.Sublist.cons_cons | apply List.Sublist.cons)); done) | fail))) (g_move rfl (.mk (v := .slice _ _ _) rfl rfl)) ?_
        refine WB.takeP 5 rfl (by decide +kernel) (by decide +kernel) (by decide +kernel) (by decide +kernel) rfl rfl (.inr (Imp.sub (by first | ((repeat (first | exact List.nil_sublist _ | exact List.Sublist.refl _ | apply List.Sublist.cons_cons | apply List.Sublist.cons)); done) | fail))) (g_move rfl (.mk (v := .int _ _) rfl rfl)) ?_
        refine WB.take 6 rfl (by decide +kernel) (by decide +kernel) (by decide +kernel) (by decide +kernel) rfl rfl (Imp.sub (by first | ((repeat (first | exact List.nil_sublist _ | exact List.Sublist.refl _ | apply List.Sublist.cons_cons | apply List.Sublist.cons)); done) | fail)) (g_indexAddr (sz := 1) rfl (.mk rfl rfl) (.mk rfl rfl) rfl rfl rfl (by omega) (fun w hw => vec_some hw (.head _) (by omega))) ?_
        refine WB.take 7 rfl (by decide +kernel) (by decide +kernel) (by decide +kernel) (by decide +kernel) rfl rfl (Imp.sub (by first | ((repeat (first | exact List.nil_sublist _ | exact List.Sublist.refl _ | apply List.Sublist.cons_cons | apply List.Sublist.cons)); done) | fail)) (g_load rfl (.mk rfl rfl) rfl (rd_vec (.head _) (get1 (by omega)))) ?_
        refine WB.takeP 8 rfl (by decide +kernel) (by decide +kernel) (by decide +kernel) (by decide +kernel) rfl rfl (.inr (Imp.sub (by first | ((repeat (first | exact List.nil_sublist _ | exact List.Sublist.refl _ | apply List.Sublist.cons_cons | apply List.Sublist.cons)); done) | fail))) (g_move rfl (.mk (v := .slice _ _ _) rfl rfl)) ?_
        refine WB.takeP 9 rfl (by decide +kernel) (by decide +kernel) (by decide +kernel) (by decide +kernel) rfl rfl (.inr (Imp.sub (by first | ((repeat (first | exact List.nil_sublist _ | exact List.Sublist.refl _ | apply List.Sublist.cons_cons | apply List.Sublist.cons)); done) | fail))) (g_move rfl (.mk (v := .int _ _) rfl rfl)) ?_
        refine WB.one 10 (by decide +kernel) rfl rfl ?_
        refine WL1.give rfl (g_indexAddr (sz := 1) rfl (.mk rfl rfl) (.mk rfl rfl) rfl rfl rfl (by omega) (fun w hw => vec_some hw (.head _) (by omega))) ?_
        refine WL.nil ?_
        refine ⟨.inr (Imp.sub (by first | ((repeat (first | exact List.nil_sublist _ | exact List.Sublist.refl _ | apply List.Sublist.cons_cons | apply List.Sublist.cons)); done) | fail)), ?_⟩
        refine WB.take 11 rfl (by decide +kernel) (by decide +kernel) (by decide +kernel) (by decide +kernel) rfl rfl (Imp.sub (by first | ((repeat (first | exact List.nil_sublist _ | exact List.Sublist.refl _ | apply List.Sublist.cons_cons | apply List.Sublist.cons)); done) | fail)) (g_load rfl (.mk rfl rfl) rfl (rd_vec (.head _) (get1 (by omega)))) ?_
        refine WB.take 12 rfl (by decide +kernel) (by decide +kernel) (by decide +kernel) (by decide +kernel) rfl rfl (Imp.sub (by first | ((repeat (first | exact List.nil_sublist _ | exact List.Sublist.refl _ | apply List.Sublist.cons_cons | apply List.Sublist.cons)); done) | fail)) (g_indexAddr (sz := 1) rfl (.mk rfl rfl) (.mk rfl rfl) rfl rfl rfl (by omega) (fun w hw => vec_some hw (.head _) (by omega))) ?_
        refine WB.one 13 (by decide +kernel) rfl rfl ?_
        refine WL1.storeV1 rfl rfl (.mk rfl rfl) (.mk (v := Row.v _) rfl rfl) rfl rfl (by first | omega | (simp; done) | (simp; omega)) (.head) ?_
        refine WL.nil ?_
        refine ⟨.inl (by decide +kernel), ?_⟩
        refine WB.one 14 (by decide +kernel) rfl rfl ?_
        refine WL1.give rfl (g_indexAddr (sz := 1) rfl (.mk rfl rfl) (.mk rfl rfl) rfl rfl rfl (by omega) (fun w hw => vec_some hw (.head _) (by omega))) ?_
        refine WL.nil ?_
        refine ⟨.inl (by decide +kernel), ?_⟩
        refine WB.one 15 (by decide +kernel) rfl rfl ?_
        refine WL1.storeV1 rfl rfl (.mk rfl rfl) (.mk (v := Row.v _) rfl rfl) rfl rfl (by first | omega | (simp; done) | (simp; omega)) (.head) ?_
        refine WL.nil ?_
        refine ⟨.inl (by decide +kernel), ?_⟩
        refine WB.done (by decide +kernel) ?_
        rotate_left
        rotate_left
        · refine ⟨swpR rs c (c + q), (by repeat (first | exact trivial | refine ⟨rfl, ?_⟩)), ?_, by rw [swpR_len, hrl], by rw [swpR_els (rs := rs) (c := c) (q := c + q) (by omega) (by omega), hre]⟩
          rw [swpR_v, Nat.mul_one, Nat.mul_one]
          exact Imp.rowsP (swpR_perm (rs := rs) (c := c) (q := c + q) (by omega) (by omega)) (by repeat (first | exact .head | apply Swap.tail))
        obtain ⟨hrl1, hre1⟩ := hr1
        clear hz0 hlt3 hq1 hq2 hq3 hp1 hp2 hcq hrp hmapl hrow2 hrl hre hsub
        obtain ⟨a1, ha1⟩ : ∃ a1, a1 = swp a c (c + q) := ⟨_, rfl⟩
        rw [← ha1] at hre1 hpc hsw
        have hrow3 : ∀ p, p < i → (nth r1 p).l.length = N := fun p hp => by rw [els_row hre1 (by omega), hN]; exact hsw.shp.2 p hp
        have hpv1 : nth (nth r1 c).l c ≠ 0 := by rw [el_row (by omega), hre1]; exact hpc
        have hrc := hrow3 c hlt2
        have hzl : (zrow N).length = N := zrow_len _
        obtain ⟨f, hf⟩ : ∃ f, f = gfused (zrow N) (nth r1 c).l (ginv (nth (nth r1 c).l c)) := ⟨_, rfl⟩
        have hfl2 : f.length = N := by rw [hf, gfused_length _ _ _ (by omega), hzl]
        have hfa : f = gfused (zrow N) (nth a1 c) (ginv (el a1 c c)) := by rw [hf, els_row hre1 (k := c) (by omega)]; rfl
        have hmapl1 : (r1.map Row.v).length = i := by rw [List.length_map, hrl1]
        (refine WC.seq ?_; intro K hK)
        refine WC.region rfl ?_
        refine WL.want rfl (WL1.give rfl (g_move rfl (.mk (v := .slice _ _ _) rfl rfl)) ?_)
        refine WL.want rfl (WL1.give rfl (g_move rfl (.mk (v := .int _ _) rfl rfl)) ?_)
        refine WL.want rfl (WL1.give rfl (g_indexAddr (sz := 1) rfl (.mk rfl rfl) (.mk rfl rfl) rfl rfl rfl (by omega) (fun w hw => vec_some hw (.head _) (by omega))) ?_)
        refine WL.want rfl (WL1.give rfl (g_load rfl (.mk rfl rfl) rfl (rd_vec (.head _) (get1 (by omega)))) ?_)
        refine WL.want rfl (WL1.give rfl (g_move rfl (.mk (v := .int _ _) rfl rfl)) ?_)
        refine WL.want rfl (WL1.give rfl (g_indexAddr (sz := 1) rfl (.mk rfl rfl) (.mk rfl rfl) rfl rfl rfl (by omega) (rowA_some (.tail _ (.head _)) (by omega) (by omega))) ?_)
        refine WL.want rfl (WL1.give rfl (g_load rfl (.mk rfl rfl) rfl (rd_rowA (.tail _ (.head _)) (by omega) (by omega))) ?_)
        refine WL.want rfl (WL1.callP rfl rfl rfl (.cons (.mk (v := .int _ _) rfl rfl) .nil) (fun w hw => Calls.belowS (rinv_c (nth (nth r1 c).l c) hpv1 w)) ?_)
        refine WL.want rfl (WL1.give rfl (g_move rfl (.mk (v := .tuple _) rfl rfl)) ?_)
        refine WL.want rfl (WL1.give rfl (g_extract rfl (.mk rfl rfl) rfl) ?_)
        refine WL.want rfl (WL1.give rfl (g_extract rfl (.mk rfl rfl) rfl) ?_)
        refine WL.want rfl (WL1.give rfl (g_assign rfl (.mk (v := .int _ _) rfl rfl)) ?_)
        refine WL.want rfl (WL1.give rfl (g_assign rfl (.mk (v := .bool _) rfl rfl)) ?_)
        refine WL.nil ?_
        (refine hK _ _ ?_; clear hK)
        refine WC.seqF (fun _ : List Row => [(13, iv c), (7, iv i), (8, .slice O i oc)]) (fun r2 => [vec O i oc 24 1 (r2.map Row.v), rowsA r2]) (fun r2 => r2.length = i ∧ els r2 = nrm a1 N c) ?_ (fun r2 V hr2 => ?_)
        refine WC.untilL [12] rfl (by kernel_rfl) ?_
        refine WB.takeP 0 rfl (by decide +kernel) (by decide +kernel) (by decide +kernel) (by decide +kernel) rfl rfl (.inr (Imp.sub (by first | ((repeat (first | exact List.nil_sublist _ | exact List.Sublist.refl _ | apply List.Sublist.cons_cons | apply List.Sublist.cons)); done) | fail))) (g_move rfl (.mk (v := .slice _ _ _) rfl rfl)) ?_
        refine WB.takeP 1 rfl (by decide +kernel) (by decide +kernel) (by decide +kernel) (by decide +kernel) rfl rfl (.inr (Imp.sub (by first | ((repeat (first | exact List.nil_sublist _ | exact List.Sublist.refl _ | apply List.Sublist.cons_cons | apply List.Sublist.cons)); done) | fail))) (g_move rfl (.mk (v := .int _ _) rfl rfl)) ?_
        refine WB.takeP 2 rfl (by decide +kernel) (by decide +kernel) (by decide +kernel) (by decide +kernel) rfl rfl (.inr (Imp.sub (by first | ((repeat (first | exact List.nil_sublist _ | exact List.Sublist.refl _ | apply List.Sublist.cons_cons | apply List.Sublist.cons)); done) | fail))) (g_move rfl (.mk (v := .int _ _) rfl rfl)) ?_
        refine WB.takeP 3 rfl (by decide +kernel) (by decide +kernel) (by decide +kernel) (by decide +kernel) rfl rfl (.inr (Imp.sub (by first | ((repeat (first | exact List.nil_sublist _ | exact List.Sublist.refl _ | apply List.Sublist.cons_cons | apply List.Sublist.cons)); done) | fail))) (g_add rfl (.mk rfl rfl) (.mk rfl rfl) hadN) ?_
        refine WB.takeP 5 rfl (by decide +kernel) (by decide +kernel) (by decide +kernel) (by decide +kernel) rfl rfl (.inr (Imp.sub (by first | ((repeat (first | exact List.nil_sublist _ | exact List.Sublist.refl _ | apply List.Sublist.cons_cons | apply List.Sublist.cons)); done) | fail))) (g_move rfl (.mk (v := .slice _ _ _) rfl rfl)) ?_
        refine WB.takeP 6 rfl (by decide +kernel) (by decide +kernel) (by decide +kernel) (by decide +kernel) rfl rfl (.inr (Imp.sub (by first | ((repeat (first | exact List.nil_sublist _ | exact List.Sublist.refl _ | apply List.Sublist.cons_cons | apply List.Sublist.cons)); done) | fail))) (g_move rfl (.mk (v := .int _ _) rfl rfl)) ?_
        refine WB.take 7 rfl (by decide +kernel) (by decide +kernel) (by decide +kernel) (by decide +kernel) rfl rfl (Imp.sub (by first | ((repeat (first | exact List.nil_sublist _ | exact List.Sublist.refl _ | apply List.Sublist.cons_cons | apply List.Sublist.cons)); done) | fail)) (g_indexAddr (sz := 1) rfl (.mk rfl rfl) (.mk rfl rfl) rfl rfl rfl (by omega) (fun w hw => vec_some hw (.head _) (by omega))) ?_
        refine WB.take 8 rfl (by decide +kernel) (by decide +kernel) (by decide +kernel) (by decide +kernel) rfl rfl (Imp.sub (by first | ((repeat (first | exact List.nil_sublist _ | exact List.Sublist.refl _ | apply List.Sublist.cons_cons | apply List.Sublist.cons)); done) | fail)) (g_load rfl (.mk rfl rfl) rfl (rd_vec (.head _) (get1 (by omega)))) ?_
        refine WB.takeP 9 rfl (by decide +kernel) (by decide +kernel) (by decide +kernel) (by decide +kernel) rfl rfl (.inr (Imp.sub (by first | ((repeat (first | exact List.nil_sublist _ | exact List.Sublist.refl _ | apply List.Sublist.cons_cons | apply List.Sublist.cons)); done) | fail))) (g_move rfl (.mk (v := .int _ _) rfl rfl)) ?_
        refine WB.one 4 (by decide +kernel) rfl rfl ?_
        refine WL1.make elB rfl rfl (.mk rfl rfl) (.mk rfl rfl) rfl rfl (by omega) (by unfold maxLen; omega) (fun b102 => ?_)
        refine WL.nil ?_
        refine ⟨.inr (Imp.sub (by first | ((repeat (first | exact List.nil_sublist _ | exact List.Sublist.refl _ | apply List.Sublist.cons_cons | apply List.Sublist.cons)); done) | fail)), ?_⟩
        refine WB.one 10 (by decide +kernel) rfl rfl ?_
        (refine WL1.callN rfl rfl rfl (.cons (.mk (v := .slice _ _ _) rfl rfl) (.cons (.mk (v := .slice _ _ _) rfl rfl) (.cons (.mk (v := .int _ _) rfl rfl) .nil))) (fun w hw => rfused_m (dst := zrow N) (src := (nth r1 c).l) (c := ginv (nth (nth r1 c).l c)) (f := f) (m := N) w hf hzl hrc (by omega) (Sl.of_vecE hw (by repeat (first | exact .head _ | apply List.Mem.tail)) rfl (madeU _)) (by have := Sl.of_rowA (k := c) hw (by repeat (first | exact .head _ | apply List.Mem.tail)) (by omega); rwa [hrc] at this)) ?_; rintro _ _ ⟨Af, cf, rfl, rfl⟩)
        refine WL.nil ?_
        refine ⟨.inr (Imp.sub (by first | ((repeat (first | exact List.nil_sublist _ | exact List.Sublist.refl _ | apply List.Sublist.cons_cons | apply List.Sublist.cons)); done) | fail)), ?_⟩
        refine WB.take 11 rfl (by decide +kernel) (by decide +kernel) (by decide +kernel) (by decide +kernel) rfl rfl (Imp.sub (by first | ((repeat (first | exact List.nil_sublist _ | exact List.Sublist.refl _ | apply List.Sublist.cons_cons | apply List.Sublist.cons)); done) | fail)) (g_indexAddr (sz := 1) rfl (.mk rfl rfl) (.mk rfl rfl) rfl rfl rfl (by omega) (fun w hw => vec_some hw (.head _) (by omega))) ?_
        refine WB.one 12 (by decide +kernel) rfl rfl ?_
        refine WL1.storeV1 rfl rfl (.mk rfl rfl) (.mk (v := .slice _ _ _) rfl rfl) rfl rfl (by first | omega | (simp; done) | (simp; omega)) (.tail (.tail (.head))) ?_
        refine WL.nil ?_
        refine ⟨.inl (by decide +kernel), ?_⟩
        refine WB.done (by decide +kernel) ?_
        rotate_left
        rotate_left
        · refine ⟨r1.set c ⟨Af, cf, f⟩, (by repeat (first | exact trivial | refine ⟨rfl, ?_⟩)), ?_, by rw [List.length_set, hrl1], by rw [els_set, hre1, hfa]; rfl⟩
          rw [rowsv_set, Nat.mul_one c, v_of hfl2, own_of hfl2]
          refine Imp.trans (Imp.put2 (rs := r1) (k := c) (r := ⟨Af, cf, f⟩) (by repeat (first | exact .head | apply Take.tail)) (by repeat (first | exact .head | apply Swap.tail)) (by omega)) ?_
          exact Imp.sub (by repeat (first | exact List.nil_sublist _ | exact List.Sublist.refl _ | apply List.Sublist.cons_cons | apply List.Sublist.cons))
        obtain ⟨hrl2, hre2⟩ := hr2
        clear hrc hzl hfl2 hf hfa hmapl1 hrow3 hpv1 hpc hrl1 hre1 f
        obtain ⟨a2, ha2⟩ : ∃ a2, a2 = nrm a1 N c := ⟨_, rfl⟩
        rw [← ha2] at hre2
        have hs2 : Shp a2 i N := by rw [ha2, hN]; exact nrm_shp hsw.shp hlt2
        have hst : elm a2 i c i = rstp a i c q := by rw [ha2, ha1, hN]; rfl
        (refine WC.seq ?_; intro K hK)
        refine WC.region rfl ?_
        refine WL.want rfl (WL1.give rfl (g_assign rfl (.mk (v := .int _ _) rfl rfl)) ?_)
        refine WL.nil ?_
        (refine hK _ _ ?_; clear hK)
        refine WC.block ?_
        refine WC.loopF2 (fun (j : Nat) (r3 : List Row) => [(17, iv j), (13, iv c), (7, iv i), (8, .slice O i oc)]) (fun j r3 => [vec O i oc 24 1 (r3.map Row.v), rowsA r3]) (fun j r3 => j ≤ i ∧ r3.length = i ∧ els r3 = elm a2 i c j) (fun j _ => i - j) 0 r2 (by repeat (first | exact trivial | refine ⟨rfl, ?_⟩)) (.refl _) ⟨by omega, hrl2, by rw [hre2, elm_zero hs2.1]⟩ ?_
        rintro j r3 U4 ⟨hj, hrl3, hre3⟩
        clear hrl2 hre2
        have hrow4 : ∀ p, p < i → (nth r3 p).l.length = N := fun p hp => by rw [els_row hre3 (by omega)]; exact (elm_shp hs2 hlt2).2 p hp
        by_cases hlt4 : j < i
        · by_cases hjc : j = c
          · (refine WC.seq ?_; intro K hK)
            (refine WC.seq ?_; intro K hK)
            refine WC.region rfl ?_
            refine WL.want rfl (WL1.give rfl (g_move rfl (.mk (v := .int _ _) rfl rfl)) ?_)
            refine WL.want rfl (WL1.give rfl (g_move rfl (.mk (v := .int _ _) rfl rfl)) ?_)
            refine WL.want rfl (WL1.give rfl (g_lt rfl (.mk rfl rfl) (.mk rfl rfl) (decide_eq_true (by omega))) ?_)
            refine WL.nil ?_
            (refine hK _ _ ?_; clear hK)
            refine WC.cond_true (.mk rfl rfl) ?_
            refine WC.skip ?_
            (refine hK _ _ ?_; clear hK)
            (refine WC.seq ?_; intro K hK)
            refine WC.block ?_
            (refine WC.seq ?_; intro K hK)
            refine WC.region rfl ?_
            refine WL.want rfl (WL1.give rfl (g_move rfl (.mk (v := .int _ _) rfl rfl)) ?_)
            refine WL.want rfl (WL1.give rfl (g_move rfl (.mk (v := .int _ _) rfl rfl)) ?_)
            refine WL.want rfl (WL1.give rfl (g_ne rfl (.mk rfl rfl) (.mk rfl rfl) (decide_eq_false (by omega))) ?_)
            refine WL.nil ?_
            (refine hK _ _ ?_; clear hK)
            refine WC.cond_false (.mk rfl rfl) ?_
            refine WC.skip ?_
            (refine hK _ _ ?_; clear hK)
            refine WC.region rfl ?_
            refine WL.want rfl (WL1.give rfl (g_move rfl (.mk (v := .int _ _) rfl rfl)) ?_)
            refine WL.want rfl (WL1.give rfl (g_add rfl (.mk rfl rfl) (.mk rfl rfl) (IntWalk.i64_in _ (by omega))) ?_)
            refine WL.want rfl (WL1.give rfl (g_assign rfl (.mk (v := .int _ _) rfl rfl)) ?_)
            refine WL.nil ?_
            exact ⟨j + 1, r3, (by repeat (first | exact trivial | refine ⟨rfl, ?_⟩)), .refl _, ⟨by omega, hrl3, by rw [hre3]; exact elm_skip hjc⟩, by omega⟩
          · have hrj := hrow4 j hlt4
            have hrcc := hrow4 c hlt2
            obtain ⟨f3, hf3⟩ : ∃ f3, f3 = gfused (nth r3 j).l (nth r3 c).l (nth (nth r3 j).l c) := ⟨_, rfl⟩
            have hfl3 : f3.length = N := by rw [hf3, gfused_length _ _ _ (by omega), hrj]
            have hfa3 : f3 = gfused (nth a2 j) (nth a2 c) (el a2 j c) := by
              have e1 : (nth r3 j).l = nth a2 j := by rw [els_row hre3 (by omega), elm_row hlt4, if_neg (by omega)]
              have e2 : (nth r3 c).l = nth a2 c := by rw [els_row hre3 (by omega), elm_row hlt2, if_neg (by omega)]
              rw [hf3, e1, e2]; rfl
            have hmapl3 : (r3.map Row.v).length = i := by rw [List.length_map, hrl3]
            (refine WC.seq ?_; intro K hK)
            (refine WC.seq ?_; intro K hK)
            refine WC.region rfl ?_
            refine WL.want rfl (WL1.give rfl (g_move rfl (.mk (v := .int _ _) rfl rfl)) ?_)
            refine WL.want rfl (WL1.give rfl (g_move rfl (.mk (v := .int _ _) rfl rfl)) ?_)
            refine WL.want rfl (WL1.give rfl (g_lt rfl (.mk rfl rfl) (.mk rfl rfl) (decide_eq_true (by omega))) ?_)
            refine WL.nil ?_
            (refine hK _ _ ?_; clear hK)
            refine WC.cond_true (.mk rfl rfl) ?_
            refine WC.skip ?_
            (refine hK _ _ ?_; clear hK)
            (refine WC.seq ?_; intro K hK)
            refine WC.block ?_
            (refine WC.seq ?_; intro K hK)
            refine WC.region rfl ?_
            refine WL.want rfl (WL1.give rfl (g_move rfl (.mk (v := .int _ _) rfl rfl)) ?_)
            refine WL.want rfl (WL1.give rfl (g_move rfl (.mk (v := .int _ _) rfl rfl)) ?_)
            refine WL.want rfl (WL1.give rfl (g_ne rfl (.mk rfl rfl) (.mk rfl rfl) (decide_eq_true (by omega))) ?_)
            refine WL.nil ?_
            (refine hK _ _ ?_; clear hK)
            refine WC.cond_true (.mk rfl rfl) ?_
            refine WC.untilL [19] rfl (by kernel_rfl) ?_
            refine WB.takeP 0 rfl (by decide +kernel) (by decide +kernel) (by decide +kernel) (by decide +kernel) rfl rfl (.inr (Imp.sub (by first | ((repeat (first | exact List.nil_sublist _ | exact List.Sublist.refl _ | apply List.Sublist.cons_cons | apply List.Sublist.cons)); done) | fail))) (g_move rfl (.mk (v := .slice _ _ _) rfl rfl)) ?_
            refine WB.takeP 1 rfl (by decide +kernel) (by decide +kernel) (by decide +kernel) (by decide +kernel) rfl rfl (.inr (Imp.sub (by first | ((repeat (first | exact List.nil_sublist _ | exact List.Sublist.refl _ | apply List.Sublist.cons_cons | apply List.Sublist.cons)); done) | fail))) (g_move rfl (.mk (v := .int _ _) rfl rfl)) ?_
            refine WB.takeP 2 rfl (by decide +kernel) (by decide +kernel) (by decide +kernel) (by decide +kernel) rfl rfl (.inr (Imp.sub (by first | ((repeat (first | exact List.nil_sublist _ | exact List.Sublist.refl _ | apply List.Sublist.cons_cons | apply List.Sublist.cons)); done) | fail))) (g_move rfl (.mk (v := .slice _ _ _) rfl rfl)) ?_
            refine WB.takeP 3 rfl (by decide +kernel) (by decide +kernel) (by decide +kernel) (by decide +kernel) rfl rfl (.inr (Imp.sub (by first | ((repeat (first | exact List.nil_sublist _ | exact List.Sublist.refl _ | apply List.Sublist.cons_cons | apply List.Sublist.cons)); done) | fail))) (g_move rfl (.mk (v := .int _ _) rfl rfl)) ?_
            refine WB.take 4 rfl (by decide +kernel) (by decide +kernel) (by decide +kernel) (by decide +kernel) rfl rfl (Imp.sub (by first | ((repeat (first | exact List.nil_sublist _ | exact List.Sublist.refl _ | apply List.Sublist.cons_cons | apply List.Sublist.cons)); done) | fail)) (g_indexAddr (sz := 1) rfl (.mk rfl rfl) (.mk rfl rfl) rfl rfl rfl (by omega) (fun w hw => vec_some hw (.head _) (by omega))) ?_
            refine WB.take 5 rfl (by decide +kernel) (by decide +kernel) (by decide +kernel) (by decide +kernel) rfl rfl (Imp.sub (by first | ((repeat (first | exact List.nil_sublist _ | exact List.Sublist.refl _ | apply List.Sublist.cons_cons | apply List.Sublist.cons)); done) | fail)) (g_load rfl (.mk rfl rfl) rfl (rd_vec (.head _) (get1 (by omega)))) ?_
            refine WB.takeP 6 rfl (by decide +kernel) (by decide +kernel) (by decide +kernel) (by decide +kernel) rfl rfl (.inr (Imp.sub (by first | ((repeat (first | exact List.nil_sublist _ | exact List.Sublist.refl _ | apply List.Sublist.cons_cons | apply List.Sublist.cons)); done) | fail))) (g_move rfl (.mk (v := .slice _ _ _) rfl rfl)) ?_
            refine WB.takeP 7 rfl (by decide +kernel) (by decide +kernel) (by decide +kernel) (by decide +kernel) rfl rfl (.inr (Imp.sub (by first | ((repeat (first | exact List.nil_sublist _ | exact List.Sublist.refl _ | apply List.Sublist.cons_cons | apply List.Sublist.cons)); done) | fail))) (g_move rfl (.mk (v := .int _ _) rfl rfl)) ?_
            refine WB.take 8 rfl (by decide +kernel) (by decide +kernel) (by decide +kernel) (by decide +kernel) rfl rfl (Imp.sub (by first | ((repeat (first | exact List.nil_sublist _ | exact List.Sublist.refl _ | apply List.Sublist.cons_cons | apply List.Sublist.cons)); done) | fail)) (g_indexAddr (sz := 1) rfl (.mk rfl rfl) (.mk rfl rfl) rfl rfl rfl (by omega) (fun w hw => vec_some hw (.head _) (by omega))) ?_
            refine WB.take 9 rfl (by decide +kernel) (by decide +kernel) (by decide +kernel) (by decide +kernel) rfl rfl (Imp.sub (by first | ((repeat (first | exact List.nil_sublist _ | exact List.Sublist.refl _ | apply List.Sublist.cons_cons | apply List.Sublist.cons)); done) | fail)) (g_load rfl (.mk rfl rfl) rfl (rd_vec (.head _) (get1 (by omega)))) ?_
            refine WB.takeP 10 rfl (by decide +kernel) (by decide +kernel) (by decide +kernel) (by decide +kernel) rfl rfl (.inr (Imp.sub (by first | ((repeat (first | exact List.nil_sublist _ | exact List.Sublist.refl _ | apply List.Sublist.cons_cons | apply List.Sublist.cons)); done) | fail))) (g_move rfl (.mk (v := .slice _ _ _) rfl rfl)) ?_
            refine WB.takeP 11 rfl (by decide +kernel) (by decide +kernel) (by decide +kernel) (by decide +kernel) rfl rfl (.inr (Imp.sub (by first | ((repeat (first | exact List.nil_sublist _ | exact List.Sublist.refl _ | apply List.Sublist.cons_cons | apply List.Sublist.cons)); done) | fail))) (g_move rfl (.mk (v := .int _ _) rfl rfl)) ?_
            refine WB.take 12 rfl (by decide +kernel) (by decide +kernel) (by decide +kernel) (by decide +kernel) rfl rfl (Imp.sub (by first | ((repeat (first | exact List.nil_sublist _ | exact List.Sublist.refl _ | apply List.Sublist.cons_cons | apply List.Sublist.cons)); done) | fail)) (g_indexAddr (sz := 1) rfl (.mk rfl rfl) (.mk rfl rfl) rfl rfl rfl (by omega) (fun w hw => vec_some hw (.head _) (by omega))) ?_
            refine WB.take 13 rfl (by decide +kernel) (by decide +kernel) (by decide +kernel) (by decide +kernel) rfl rfl (Imp.sub (by first | ((repeat (first | exact List.nil_sublist _ | exact List.Sublist.refl _ | apply List.Sublist.cons_cons | apply List.Sublist.cons)); done) | fail)) (g_load rfl (.mk rfl rfl) rfl (rd_vec (.head _) (get1 (by omega)))) ?_
            refine WB.takeP 14 rfl (by decide +kernel) (by decide +kernel) (by decide +kernel) (by decide +kernel) rfl rfl (.inr (Imp.sub (by first | ((repeat (first | exact List.nil_sublist _ | exact List.Sublist.refl _ | apply List.Sublist.cons_cons | apply List.Sublist.cons)); done) | fail))) (g_move rfl (.mk (v := .int _ _) rfl rfl)) ?_
            refine WB.take 15 rfl (by decide +kernel) (by decide +kernel) (by decide +kernel) (by decide +kernel) rfl rfl (Imp.sub (by first | ((repeat (first | exact List.nil_sublist _ | exact List.Sublist.refl _ | apply List.Sublist.cons_cons | apply List.Sublist.cons)); done) | fail)) (g_indexAddr (sz := 1) rfl (.mk rfl rfl) (.mk rfl rfl) rfl rfl rfl (by omega) (rowA_some (.tail _ (.head _)) (by omega) (by omega))) ?_
            refine WB.take 16 rfl (by decide +kernel) (by decide +kernel) (by decide +kernel) (by decide +kernel) rfl rfl (Imp.sub (by first | ((repeat (first | exact List.nil_sublist _ | exact List.Sublist.refl _ | apply List.Sublist.cons_cons | apply List.Sublist.cons)); done) | fail)) (g_load rfl (.mk rfl rfl) rfl (rd_rowA (.tail _ (.head _)) (by omega) (by omega))) ?_
            refine WB.one 17 (by decide +kernel) rfl rfl ?_
            (refine WL1.callN rfl rfl rfl (.cons (.mk (v := .slice _ _ _) rfl rfl) (.cons (.mk (v := .slice _ _ _) rfl rfl) (.cons (.mk (v := .int _ _) rfl rfl) .nil))) (fun w hw => rfused_m (dst := (nth r3 j).l) (src := (nth r3 c).l) (c := nth (nth r3 j).l c) (f := f3) (m := N) w hf3 hrj hrcc (by omega) (by have := Sl.of_rowA (k := j) hw (by repeat (first | exact .head _ | apply List.Mem.tail)) (by omega); rwa [hrj] at this) (by have := Sl.of_rowA (k := c) hw (by repeat (first | exact .head _ | apply List.Mem.tail)) (by omega); rwa [hrcc] at this)) ?_; rintro _ _ ⟨Af, cf, rfl, rfl⟩)
            refine WL.nil ?_
            refine ⟨.inr (Imp.sub (by first | ((repeat (first | exact List.nil_sublist _ | exact List.Sublist.refl _ | apply List.Sublist.cons_cons | apply List.Sublist.cons)); done) | fail)), ?_⟩
            refine WB.take 18 rfl (by decide +kernel) (by decide +kernel) (by decide +kernel) (by decide +kernel) rfl rfl (Imp.sub (by first | ((repeat (first | exact List.nil_sublist _ | exact List.Sublist.refl _ | apply List.Sublist.cons_cons | apply List.Sublist.cons)); done) | fail)) (g_indexAddr (sz := 1) rfl (.mk rfl rfl) (.mk rfl rfl) rfl rfl rfl (by omega) (fun w hw => vec_some hw (.head _) (by omega))) ?_
            refine WB.one 19 (by decide +kernel) rfl rfl ?_
            refine WL1.storeV1 rfl rfl (.mk rfl rfl) (.mk (v := .slice _ _ _) rfl rfl) rfl rfl (by first | omega | (simp; done) | (simp; omega)) (.tail (.head)) ?_
            refine WL.nil ?_
            refine ⟨.inl (by decide +kernel), ?_⟩
            refine WB.done (by decide +kernel) ?_
            (refine hK _ _ ?_; clear hK)
            refine WC.region rfl ?_
            refine WL.want rfl (WL1.give rfl (g_move rfl (.mk (v := .int _ _) rfl rfl)) ?_)
            refine WL.want rfl (WL1.give rfl (g_add rfl (.mk rfl rfl) (.mk rfl rfl) (IntWalk.i64_in _ (by omega))) ?_)
            refine WL.want rfl (WL1.give rfl (g_assign rfl (.mk (v := .int _ _) rfl rfl)) ?_)
            refine WL.nil ?_
            refine ⟨j + 1, r3.set j ⟨Af, cf, f3⟩, (by repeat (first | exact trivial | refine ⟨rfl, ?_⟩)), ?_, ⟨by omega, by rw [List.length_set, hrl3], by rw [els_set, hre3, hfa3]; exact elm_set hlt4 hjc⟩, by omega⟩
            rw [rowsv_set, Nat.mul_one j, v_of hfl3, own_of hfl3]
            exact Imp.put2 (by repeat (first | exact .head | apply Take.tail)) (by repeat (first | exact .head | apply Swap.tail)) (by omega)
        · obtain rfl : j = i := by omega
          (refine WC.seq ?_; intro K hK)
          (refine WC.seq ?_; intro K hK)
          refine WC.region rfl ?_
          refine WL.want rfl (WL1.give rfl (g_move rfl (.mk (v := .int _ _) rfl rfl)) ?_)
          refine WL.want rfl (WL1.give rfl (g_move rfl (.mk (v := .int _ _) rfl rfl)) ?_)
          refine WL.want rfl (WL1.give rfl (g_lt rfl (.mk rfl rfl) (.mk rfl rfl) (decide_eq_false (by omega))) ?_)
          refine WL.nil ?_
          (refine hK _ _ ?_; clear hK)
          refine WC.cond_false (.mk rfl rfl) ?_
          refine WC.exit ?_
          (clear hK; refine hK _ _ ?_; clear hK)
          refine WC.region rfl ?_
          refine WL.want rfl (WL1.give rfl (g_move rfl (.mk (v := .int _ _) rfl rfl)) ?_)
          refine WL.want rfl (WL1.give rfl (g_add rfl (.mk rfl rfl) (.mk rfl rfl) (IntWalk.i64_in _ (by omega))) ?_)
          refine WL.want rfl (WL1.give rfl (g_assign rfl (.mk (v := .int _ _) rfl rfl)) ?_)
          refine WL.nil ?_
          exact ⟨c + 1, rstp a j c q, r3, (by repeat (first | exact trivial | refine ⟨rfl, ?_⟩)), Imp.sub (by repeat (first | exact List.nil_sublist _ | exact List.Sublist.refl _ | apply List.Sublist.cons_cons | apply List.Sublist.cons)), ⟨by omega, hrl3, by rw [hre3, hst], hI2⟩, by omega⟩
    · obtain rfl : c = i := by omega
      have hrow2 : ∀ p, p < c → (nth rs p).l.length = c + 1 := fun p hp => by rw [els_row hre (by omega)]; exact hI.shp.2 p hp
      have hwl := wts_len c fr to
      (refine WC.seq ?_; intro K hK)
      (refine WC.seq ?_; intro K hK)
      refine WC.region rfl ?_
      refine WL.want rfl (WL1.give rfl (g_move rfl (.mk (v := .int _ _) rfl rfl)) ?_)
      refine WL.want rfl (WL1.give rfl (g_move rfl (.mk (v := .int _ _) rfl rfl)) ?_)
      refine WL.want rfl (WL1.give rfl (g_lt rfl (.mk rfl rfl) (.mk rfl rfl) (decide_eq_false (by omega))) ?_)
      refine WL.nil ?_
      (refine hK _ _ ?_; clear hK)
      refine WC.cond_false (.mk rfl rfl) ?_
      refine WC.exit ?_
      (clear hK; refine hK _ _ ?_; clear hK)
      (refine WC.seq ?_; intro K hK)
      refine WC.region rfl ?_
      refine WL.want rfl (WL1.give rfl (g_assign rfl (.mk (v := .slice _ _ _) rfl rfl)) ?_)
      refine WL.nil ?_
      (refine hK _ _ ?_; clear hK)
      (refine WC.seq ?_; intro K hK)
      (refine WC.seq ?_; intro K hK)
      refine WC.region rfl ?_
      refine WL.want rfl (WL1.give rfl (g_assign rfl (.mk (v := .int _ _) rfl rfl)) ?_)
      refine WL.nil ?_
      (refine hK _ _ ?_; clear hK)
      refine WC.block ?_
      refine WC.nilvec 5 1 ?_
      refine WC.loopF3 (fun (k : Nat) (D : Option Addr) (dc : Nat) => [(19, iv k), (18, .slice D k dc), (7, iv c), (8, .slice O c oc)]) (fun k D dc => [vec D k dc 5 1 (bvs ((wts c fr to).take k)), vec O c oc 24 1 (rs.map Row.v), rowsA rs]) (fun k _ _ => k ≤ c) (fun k _ _ => c - k) 0 none 0 (by repeat (first | exact trivial | refine ⟨rfl, ?_⟩)) (.refl _) (by omega) ?_
      intro k D dc V hk
      by_cases hlt3 : k < c
      · have hrk := hrow2 k hlt3
        have hval : nth (nth rs k).l c = nth (wts c fr to) k := by rw [el_row (by omega), hre, hI.out hlt3, hW]
        have htk : (wts c fr to).take (k + 1) = (wts c fr to).take k ++ [nth (nth rs k).l c] := by rw [take_succ_nth (by omega), hval]
        (refine WC.seq ?_; intro K hK)
        (refine WC.seq ?_; intro K hK)
        refine WC.region rfl ?_
        refine WL.want rfl (WL1.give rfl (g_move rfl (.mk (v := .int _ _) rfl rfl)) ?_)
        refine WL.want rfl (WL1.give rfl (g_move rfl (.mk (v := .int _ _) rfl rfl)) ?_)
        refine WL.want rfl (WL1.give rfl (g_lt rfl (.mk rfl rfl) (.mk rfl rfl) (decide_eq_true (by omega))) ?_)
        refine WL.nil ?_
        (refine hK _ _ ?_; clear hK)
        refine WC.cond_true (.mk rfl rfl) ?_
        refine WC.skip ?_
        (refine hK _ _ ?_; clear hK)
        (refine WC.seq ?_; intro K hK)
        refine WC.block ?_
        refine WC.region rfl ?_
        refine WL.want rfl (WL1.give rfl (g_move rfl (.mk (v := .slice _ _ _) rfl rfl)) ?_)
        refine WL.want rfl (WL1.give rfl (g_move rfl (.mk (v := .slice _ _ _) rfl rfl)) ?_)
        refine WL.want rfl (WL1.give rfl (g_move rfl (.mk (v := .int _ _) rfl rfl)) ?_)
        refine WL.want rfl (WL1.give rfl (g_indexAddr (sz := 1) rfl (.mk rfl rfl) (.mk rfl rfl) rfl rfl rfl (by omega) (fun w hw => vec_some hw (.tail _ (.head _)) (by omega))) ?_)
        refine WL.want rfl (WL1.give rfl (g_load rfl (.mk rfl rfl) rfl (rd_vec (.tail _ (.head _)) (get1 (by omega)))) ?_)
        refine WL.want rfl (WL1.give rfl (g_move rfl (.mk (v := .int _ _) rfl rfl)) ?_)
        refine WL.want rfl (WL1.give rfl (g_indexAddr (sz := 1) rfl (.mk rfl rfl) (.mk rfl rfl) rfl rfl rfl (by omega) (rowA_some (.tail _ (.tail _ (.head _))) (by omega) (by omega))) ?_)
        refine WL.want rfl (WL1.give rfl (g_load rfl (.mk rfl rfl) rfl (rd_rowA (.tail _ (.tail _ (.head _))) (by omega) (by omega))) ?_)
        refine WL.want rfl (WL1.lit (cs := [_]) elB rfl rfl rfl (.cons (.mk (v := .int _ _) rfl rfl) .nil) rfl (by first | (simp [Value.cells]; done) | fail) rfl rfl (fun b150 => ?_))
        refine WL.want rfl (WL1.append elB rfl rfl (.mk rfl rfl) (.mk rfl rfl) (.tail (.head)) (fun w hw => Sl.of_vec hw (.head _)) (all1 rfl) (by unfold maxLen; omega) (by omega) (fun A151 c151 => ?_))
        refine WL.want rfl (WL1.give rfl (g_assign rfl (.mk (v := .slice _ _ _) rfl rfl)) ?_)
        refine WL.nil ?_
        (refine hK _ _ ?_; clear hK)
        refine WC.region rfl ?_
        refine WL.want rfl (WL1.give rfl (g_move rfl (.mk (v := .int _ _) rfl rfl)) ?_)
        refine WL.want rfl (WL1.give rfl (g_add rfl (.mk rfl rfl) (.mk rfl rfl) (IntWalk.i64_in _ (by omega))) ?_)
        refine WL.want rfl (WL1.give rfl (g_assign rfl (.mk (v := .int _ _) rfl rfl)) ?_)
        refine WL.nil ?_
        exact ⟨k + 1, _, _, (by repeat (first | exact trivial | refine ⟨rfl, ?_⟩)), by rw [htk, ← bvs_snoc]; exact Imp.cons (Imp.sub (by repeat (first | exact List.nil_sublist _ | exact List.Sublist.refl _ | apply List.Sublist.cons_cons | apply List.Sublist.cons))), by omega, by omega⟩
      · obtain rfl : k = c := by omega
        have htl : (wts k fr to).take k = wts k fr to := List.take_of_length_le (by omega)
        rw [htl]
        (refine WC.seq ?_; intro K hK)
        (refine WC.seq ?_; intro K hK)
        refine WC.region rfl ?_
        refine WL.want rfl (WL1.give rfl (g_move rfl (.mk (v := .int _ _) rfl rfl)) ?_)
        refine WL.want rfl (WL1.give rfl (g_move rfl (.mk (v := .int _ _) rfl rfl)) ?_)
        refine WL.want rfl (WL1.give rfl (g_lt rfl (.mk rfl rfl) (.mk rfl rfl) (decide_eq_false (by omega))) ?_)
        refine WL.nil ?_
        (refine hK _ _ ?_; clear hK)
        refine WC.cond_false (.mk rfl rfl) ?_
        refine WC.exit ?_
        (clear hK; refine hK _ _ ?_; clear hK)
        (refine WC.seq ?_; intro K hK)
        refine WC.region rfl ?_
        refine WL.want rfl (WL1.give rfl (g_move rfl (.mk (v := .slice _ _ _) rfl rfl)) ?_)
        refine WL.want rfl (WL1.give rfl (g_assign rfl (.mk (v := .slice _ _ _) rfl rfl)) ?_)
        refine WL.nil ?_
        (refine hK _ _ ?_; clear hK)
        refine WC.ret ?_
        exact fun w' hw' => ⟨_, _, rfl, hw'.sub (.cons_cons _ (.cons _ (.cons _ (.slnil)))), D, dc, rfl, rfl⟩
end Go.Proofs.Ytlcddlipcdimeaa
namespace Go.Proofs.Ytlcddlipcdimeaa
open Go.RowKit
attribute [local irreducible] Calls
def gn (n : Nat) (h : n < 256 := by omega) : G := ⟨n, h⟩
/-- A block with one byte. -/
def lb (x : G) : Blk := ⟨[x, 0, 0, 0, 0, 0, 0, 0], rfl⟩
theorem same_t {v1 v2 : Value} {a b : List Blk} {n m : Nat} {w : World} (h1 : Sl w 8 v1 n (kvs a)) (h2 : Sl w 8 v2 m (kvs b)) (hn : a.length = n) (hm : b.length = m) (he : a = b) : Calls Try.prog 21 #[v1, v2] w fun e w' => e = .returned (.bool true) ∧ Below w.heap.size w w' := by
  subst hn; subst hm
  have := same_e v1 v2 a b w h1 h2
  rwa [decide_eq_true he] at this
theorem bsame_t {v1 v2 : Value} {a b : List G} {n m : Nat} {w : World} (h1 : Sl w 1 v1 n (bvs a)) (h2 : Sl w 1 v2 m (bvs b)) (hn : a.length = n) (hm : b.length = m) (he : a = b) : Calls Try.prog 13 #[v1, v2] w fun e w' => e = .returned (.bool true) ∧ Below w.heap.size w w' := by
  subst hn; subst hm; subst he
  exact (same_any v1 v2 a a w h1 h2).mono fun _ _ ⟨h1, h2⟩ => ⟨by rw [h1, sameG_self], by rw [h2]; exact .refl _ _⟩
theorem weights_k {v : Value} {m n to : Nat} {zm zt : Int} {fr : List Nat} {ws : List G} {w : World} (hzm : zm = (m : Int)) (hzt : zt = (to : Int)) (hm : m = n + 3) (h1 : 1 ≤ n) (h2 : n ≤ 13) (hfr : Wfr n fr) (hto : to < m) (hw : wts n fr to = ws) (hv : Sl w 1 v n (ldv fr)) :
    Calls Try.prog 12 #[iv zm, v, iv zt] w fun e w' => ∃ v' M, e = .returned v' ∧ H w M w' ∧ ∃ A c, v' = .tuple #[.slice A n c, iv 0] ∧ M = [vec A n c 5 1 (bvs ws)] := by
  subst hzm; subst hzt; subst hw
  exact weights_n v m n to fr w (by rw [hfr.len]; exact hv) hm h1 h2 hfr hto
theorem decode_k {vp vb : Value} {ps qs : List Blk} {bs : List Bool} {n m : Nat} {w : World} (hm : m = n + 3) (h1 : 1 ≤ n) (h2 : n ≤ 13) (hpl : ps.length = n + 3) (hbl : bs.length = n + 3) (hc : cnt bs (n + 3) ≤ 3) (hd : decL ps bs n = qs) (hp : Sl w 8 vp m (kvs ps)) (hb : Sl w 1 vb m (bls bs)) :
    Calls Try.prog 20 #[vp, vb] w fun e w' => ∃ v' M, e = .returned v' ∧ H w M w' ∧ ∃ A c, v' = .tuple #[.slice A m c, iv 0] ∧ M = [vec A m c 33 8 (kvs qs)] := by
  subst hm; subst hd
  refine (decode_c vp vb ps bs n w (by rw [hpl]; exact hp) (by rw [hbl]; exact hb) h1 h2 hpl hbl).mono fun e w' ⟨v', M, he, hM, h⟩ => ⟨v', M, he, hM, ?_⟩
  rcases h with ⟨h, _⟩ | ⟨_, h⟩
  · omega
  · exact h
theorem decode_l {vp vb : Value} {ps : List Blk} {bs : List Bool} {n m : Nat} {w : World} (hm : m = n + 3) (h1 : 1 ≤ n) (h2 : n ≤ 13) (hpl : ps.length = n + 3) (hbl : bs.length = n + 3) (hc : 3 < cnt bs (n + 3)) (hp : Sl w 8 vp m (kvs ps)) (hb : Sl w 1 vb m (bls bs)) :
    Calls Try.prog 20 #[vp, vb] w fun e w' => e = .returned (.tuple #[.slice none 0 0, iv 12]) ∧ Below w.heap.size w w' := by
  subst hm
  refine (decode_c vp vb ps bs n w (by rw [hpl]; exact hp) (by rw [hbl]; exact hb) h1 h2 hpl hbl).mono fun e w' ⟨v', M, he, hM, h⟩ => ?_
  rcases h with ⟨_, h⟩ | ⟨h, _⟩
  · exact ⟨by rw [he, h], hM.1⟩
  · omega
theorem locate_k {v : Value} {ps : List Blk} {n m : Nat} {z e : Int} {w : World} (hm : m = n + 3) (h1 : 1 ≤ n) (h2 : n ≤ 13) (hpl : ps.length = n + 3) (hl : locV n (nth (synL ps) 0) (nth (synL ps) 1) (nth (synL ps) 2) = (z, e)) (hv : Sl w 8 v m (kvs ps)) :
    Calls Try.prog 27 #[v] w fun en w' => en = .returned (.tuple #[iv z, iv e]) ∧ Below w.heap.size w w' := by
  subst hm
  have := locate_n v ps n w (by rw [hpl]; exact hv) h1 h2 hpl
  rwa [hl] at this
theorem ex_w1 : wts 2 [1, 2] 0 = [1, 1] := by decide +kernel
theorem ex_w2 : wts 2 [1, 3] 0 = [2, 1] := by decide +kernel
theorem ex_f1 : Wfr 2 [1, 2] := ⟨rfl, by decide, fun i hi => match i, hi with | 0, _ => by decide⟩
theorem ex_f2 : Wfr 2 [1, 3] := ⟨rfl, by decide, fun i hi => match i, hi with | 0, _ => by decide⟩
theorem ex_dec : decL [lb 1, lb 1, lb (gn 6), lb (gn 9), lb 1] [true, true, false, false, true] 2 = [lb (gn 3), lb (gn 5), lb (gn 6), lb (gn 9), lb (gn 23)] := by decide +kernel
theorem ex_loc : locV 2 (nth (synL [lb (gn 3), lb (gn 4), lb (gn 6), lb (gn 9), lb (gn 23)]) 0) (nth (synL [lb (gn 3), lb (gn 4), lb (gn 6), lb (gn 9), lb (gn 23)]) 1) (nth (synL [lb (gn 3), lb (gn 4), lb (gn 6), lb (gn 9), lb (gn 23)]) 2) = (1, 0) := by decide +kernel
set_option maxRecDepth 20000 in
set_option maxHeartbeats 4000000 in
theorem awake_e (w : World) : Calls Try.prog 11 #[] w fun e w' => e = .returned (.bool true) ∧ Below w.heap.size w w' := by
  refine calls_wc (args := []) [0] [] Try.func11 rfl Try.ntmps11 rfl rfl rfl rfl (H.refl w) ?_
  (refine WC.seq ?_; intro K hK)
  refine WC.region rfl ?_
  refine WL.want rfl (WL1.give rfl (g_assign rfl (.mk (v := .bool _) rfl rfl)) ?_)
  refine WL.nil ?_
  (refine hK _ _ ?_; clear hK)
  (refine WC.seq ?_; intro K hK)
  refine WC.region rfl ?_
  refine WL.want rfl (WL1.lit (cs := [_, _]) elI rfl rfl rfl (.cons (.mk (v := .int _ _) rfl rfl) (.cons (.mk (v := .int _ _) rfl rfl) .nil)) rfl (by first | (simp [Value.cells]; done) | fail) rfl rfl (fun b11 => ?_))
  (refine WL.want rfl (WL1.callN rfl rfl rfl (.cons (.mk (v := .int _ _) rfl rfl) (.cons (.mk (v := .slice _ _ _) rfl rfl) (.cons (.mk (v := .int _ _) rfl rfl) .nil))) (fun w hw => weights_k (m := 5) (n := 2) (to := 0) rfl rfl rfl (by omega) (by omega) ex_f1 (by omega) ex_w1 (Sl.of_vec hw (.head _))) ?_); rintro _ _ ⟨A1, c1, rfl, rfl⟩)
  refine WL.want rfl (WL1.give rfl (g_move rfl (.mk (v := .tuple _) rfl rfl)) ?_)
  refine WL.want rfl (WL1.give rfl (g_extract rfl (.mk rfl rfl) rfl) ?_)
  refine WL.want rfl (WL1.give rfl (g_extract rfl (.mk rfl rfl) rfl) ?_)
  refine WL.want rfl (WL1.give rfl (g_assign rfl (.mk (v := .slice _ _ _) rfl rfl)) ?_)
  refine WL.want rfl (WL1.give rfl (g_assign rfl (.mk (v := .int _ _) rfl rfl)) ?_)
  refine WL.nil ?_
  (refine hK _ _ ?_; clear hK)
  (refine WC.seq ?_; intro K hK)
  refine WC.region rfl ?_
  refine WL.want rfl (WL1.lit (cs := [_, _]) elI rfl rfl rfl (.cons (.mk (v := .int _ _) rfl rfl) (.cons (.mk (v := .int _ _) rfl rfl) .nil)) rfl (by first | (simp [Value.cells]; done) | fail) rfl rfl (fun b16 => ?_))
  (refine WL.want rfl (WL1.callN rfl rfl rfl (.cons (.mk (v := .int _ _) rfl rfl) (.cons (.mk (v := .slice _ _ _) rfl rfl) (.cons (.mk (v := .int _ _) rfl rfl) .nil))) (fun w hw => weights_k (m := 5) (n := 2) (to := 0) rfl rfl rfl (by omega) (by omega) ex_f2 (by omega) ex_w2 (Sl.of_vec hw (.head _))) ?_); rintro _ _ ⟨A2, c2, rfl, rfl⟩)
  refine WL.want rfl (WL1.give rfl (g_move rfl (.mk (v := .tuple _) rfl rfl)) ?_)
  refine WL.want rfl (WL1.give rfl (g_extract rfl (.mk rfl rfl) rfl) ?_)
  refine WL.want rfl (WL1.give rfl (g_extract rfl (.mk rfl rfl) rfl) ?_)
  refine WL.want rfl (WL1.give rfl (g_assign rfl (.mk (v := .slice _ _ _) rfl rfl)) ?_)
  refine WL.want rfl (WL1.give rfl (g_assign rfl (.mk (v := .int _ _) rfl rfl)) ?_)
  refine WL.nil ?_
  (refine hK _ _ ?_; clear hK)
  (refine WC.seq ?_; intro K hK)
  refine WC.region rfl ?_
  refine WL.want rfl (WL1.give rfl (g_buildArr (cs := [_, _, _, _, _, _, _, _]) rfl rfl rfl rfl rfl (.cons (.mk (v := .int _ _) rfl rfl) .nil) rfl rfl rfl) ?_)
  refine WL.want rfl (WL1.give rfl (g_buildArr (cs := [_, _, _, _, _, _, _, _]) rfl rfl rfl rfl rfl (.cons (.mk (v := .int _ _) rfl rfl) .nil) rfl rfl rfl) ?_)
  refine WL.want rfl (WL1.give rfl (g_buildArr (cs := [_, _, _, _, _, _, _, _]) rfl rfl rfl rfl rfl (.cons (.mk (v := .int _ _) rfl rfl) .nil) rfl rfl rfl) ?_)
  refine WL.want rfl (WL1.give rfl (g_buildArr (cs := [_, _, _, _, _, _, _, _]) rfl rfl rfl rfl rfl (.cons (.mk (v := .int _ _) rfl rfl) .nil) rfl rfl rfl) ?_)
  refine WL.want rfl (WL1.give rfl (g_buildArr (cs := [_, _, _, _, _, _, _, _]) rfl rfl rfl rfl rfl (.cons (.mk (v := .int _ _) rfl rfl) .nil) rfl rfl rfl) ?_)
  refine WL.want rfl (WL1.lit (cs := [_, _, _, _, _, _, _, _, _, _, _, _, _, _, _, _, _, _, _, _, _, _, _, _, _, _, _, _, _, _, _, _, _, _, _, _, _, _, _, _]) elK rfl rfl rfl (.cons (.mk (v := .agg _) rfl rfl) (.cons (.mk (v := .agg _) rfl rfl) (.cons (.mk (v := .agg _) rfl rfl) (.cons (.mk (v := .agg _) rfl rfl) (.cons (.mk (v := .agg _) rfl rfl) .nil))))) rfl (by first | (simp [Value.cells]; done) | fail) rfl rfl (fun b25 => ?_))
  refine WL.want rfl (WL1.give rfl (g_assign rfl (.mk (v := .slice _ _ _) rfl rfl)) ?_)
  refine WL.nil ?_
  (refine hK _ _ ?_; clear hK)
  (refine WC.seq ?_; intro K hK)
  refine WC.region rfl ?_
  refine WL.want rfl (WL1.give rfl (g_buildArr (cs := [_, _, _, _, _, _, _, _]) rfl rfl rfl rfl rfl (.cons (.mk (v := .int _ _) rfl rfl) .nil) rfl rfl rfl) ?_)
  refine WL.want rfl (WL1.give rfl (g_buildArr (cs := [_, _, _, _, _, _, _, _]) rfl rfl rfl rfl rfl (.cons (.mk (v := .int _ _) rfl rfl) .nil) rfl rfl rfl) ?_)
  refine WL.want rfl (WL1.give rfl (g_buildArr (cs := [_, _, _, _, _, _, _, _]) rfl rfl rfl rfl rfl (.cons (.mk (v := .int _ _) rfl rfl) .nil) rfl rfl rfl) ?_)
  refine WL.want rfl (WL1.give rfl (g_buildArr (cs := [_, _, _, _, _, _, _, _]) rfl rfl rfl rfl rfl (.cons (.mk (v := .int _ _) rfl rfl) .nil) rfl rfl rfl) ?_)
  refine WL.want rfl (WL1.give rfl (g_buildArr (cs := [_, _, _, _, _, _, _, _]) rfl rfl rfl rfl rfl (.cons (.mk (v := .int _ _) rfl rfl) .nil) rfl rfl rfl) ?_)
  refine WL.want rfl (WL1.lit (cs := [_, _, _, _, _, _, _, _, _, _, _, _, _, _, _, _, _, _, _, _, _, _, _, _, _, _, _, _, _, _, _, _, _, _, _, _, _, _, _, _]) elK rfl rfl rfl (.cons (.mk (v := .agg _) rfl rfl) (.cons (.mk (v := .agg _) rfl rfl) (.cons (.mk (v := .agg _) rfl rfl) (.cons (.mk (v := .agg _) rfl rfl) (.cons (.mk (v := .agg _) rfl rfl) .nil))))) rfl (by first | (simp [Value.cells]; done) | fail) rfl rfl (fun b32 => ?_))
  refine WL.want rfl (WL1.lit (cs := [_, _, _, _, _]) elBo rfl rfl rfl (.cons (.mk (v := .bool _) rfl rfl) (.cons (.mk (v := .bool _) rfl rfl) (.cons (.mk (v := .bool _) rfl rfl) (.cons (.mk (v := .bool _) rfl rfl) (.cons (.mk (v := .bool _) rfl rfl) .nil))))) rfl (by first | (simp [Value.cells]; done) | fail) rfl rfl (fun b33 => ?_))
  (refine WL.want rfl (WL1.callN rfl rfl rfl (.cons (.mk (v := .slice _ _ _) rfl rfl) (.cons (.mk (v := .slice _ _ _) rfl rfl) .nil)) (fun w hw => decode_k (m := 5) (n := 2) rfl (by omega) (by omega) rfl rfl (by decide) ex_dec (Sl.of_vec hw (.tail _ (.head _))) (Sl.of_vec hw (.head _))) ?_); rintro _ _ ⟨A3, c3, rfl, rfl⟩)
  refine WL.want rfl (WL1.give rfl (g_move rfl (.mk (v := .tuple _) rfl rfl)) ?_)
  refine WL.want rfl (WL1.give rfl (g_extract rfl (.mk rfl rfl) rfl) ?_)
  refine WL.want rfl (WL1.give rfl (g_extract rfl (.mk rfl rfl) rfl) ?_)
  refine WL.want rfl (WL1.give rfl (g_assign rfl (.mk (v := .slice _ _ _) rfl rfl)) ?_)
  refine WL.want rfl (WL1.give rfl (g_assign rfl (.mk (v := .int _ _) rfl rfl)) ?_)
  refine WL.nil ?_
  (refine hK _ _ ?_; clear hK)
  (refine WC.seq ?_; intro K hK)
  refine WC.region rfl ?_
  refine WL.want rfl (WL1.give rfl (g_buildArr (cs := [_, _, _, _, _, _, _, _]) rfl rfl rfl rfl rfl (.cons (.mk (v := .int _ _) rfl rfl) .nil) rfl rfl rfl) ?_)
  refine WL.want rfl (WL1.give rfl (g_buildArr (cs := [_, _, _, _, _, _, _, _]) rfl rfl rfl rfl rfl (.cons (.mk (v := .int _ _) rfl rfl) .nil) rfl rfl rfl) ?_)
  refine WL.want rfl (WL1.give rfl (g_buildArr (cs := [_, _, _, _, _, _, _, _]) rfl rfl rfl rfl rfl (.cons (.mk (v := .int _ _) rfl rfl) .nil) rfl rfl rfl) ?_)
  refine WL.want rfl (WL1.give rfl (g_buildArr (cs := [_, _, _, _, _, _, _, _]) rfl rfl rfl rfl rfl (.cons (.mk (v := .int _ _) rfl rfl) .nil) rfl rfl rfl) ?_)
  refine WL.want rfl (WL1.give rfl (g_buildArr (cs := [_, _, _, _, _, _, _, _]) rfl rfl rfl rfl rfl (.cons (.mk (v := .int _ _) rfl rfl) .nil) rfl rfl rfl) ?_)
  refine WL.want rfl (WL1.lit (cs := [_, _, _, _, _, _, _, _, _, _, _, _, _, _, _, _, _, _, _, _, _, _, _, _, _, _, _, _, _, _, _, _, _, _, _, _, _, _, _, _]) elK rfl rfl rfl (.cons (.mk (v := .agg _) rfl rfl) (.cons (.mk (v := .agg _) rfl rfl) (.cons (.mk (v := .agg _) rfl rfl) (.cons (.mk (v := .agg _) rfl rfl) (.cons (.mk (v := .agg _) rfl rfl) .nil))))) rfl (by first | (simp [Value.cells]; done) | fail) rfl rfl (fun b43 => ?_))
  refine WL.want rfl (WL1.callP rfl rfl rfl (.cons (.mk (v := .slice _ _ _) rfl rfl) .nil) (fun w hw => locate_k (m := 5) (n := 2) rfl (by omega) (by omega) rfl ex_loc (Sl.of_vec hw (.head _))) ?_)
  refine WL.want rfl (WL1.give rfl (g_move rfl (.mk (v := .tuple _) rfl rfl)) ?_)
  refine WL.want rfl (WL1.give rfl (g_extract rfl (.mk rfl rfl) rfl) ?_)
  refine WL.want rfl (WL1.give rfl (g_extract rfl (.mk rfl rfl) rfl) ?_)
  refine WL.want rfl (WL1.give rfl (g_assign rfl (.mk (v := .int _ _) rfl rfl)) ?_)
  refine WL.want rfl (WL1.give rfl (g_assign rfl (.mk (v := .int _ _) rfl rfl)) ?_)
  refine WL.nil ?_
  (refine hK _ _ ?_; clear hK)
  (refine WC.seq ?_; intro K hK)
  refine WC.region rfl ?_
  refine WL.want rfl (WL1.give rfl (g_move rfl (.mk (v := .int _ _) rfl rfl)) ?_)
  refine WL.want rfl (WL1.give rfl (g_eq rfl (.mk rfl rfl) (.mk rfl rfl) (decide_eq_true (by omega))) ?_)
  refine WL.want rfl (WL1.give rfl (g_move rfl (.mk (v := .bool _) rfl rfl)) ?_)
  refine WL.wantG rfl rfl rfl rfl (WL1.give rfl (g_move rfl (.mk (v := .slice _ _ _) rfl rfl)) ?_)
  refine WL.wantG rfl rfl rfl rfl (WL1.lit (cs := [_, _]) elB rfl rfl rfl (.cons (.mk (v := .int _ _) rfl rfl) (.cons (.mk (v := .int _ _) rfl rfl) .nil)) rfl (by first | (simp [Value.cells]; done) | fail) rfl rfl (fun b51 => ?_))
  refine WL.wantG rfl rfl rfl rfl (WL1.callP rfl rfl rfl (.cons (.mk (v := .slice _ _ _) rfl rfl) (.cons (.mk (v := .slice _ _ _) rfl rfl) .nil)) (fun w hw => bsame_t (a := [1, 1]) (b := [1, 1]) (Sl.of_vec hw (by repeat (first | exact .head _ | apply List.Mem.tail))) (Sl.of_vec hw (.head _)) rfl rfl rfl) ?_)
  refine WL.want rfl (WL1.give rfl (g_pickT rfl (.mk rfl rfl) (.mk (v := .bool _) rfl rfl)) ?_)
  refine WL.want rfl (WL1.give rfl (g_move rfl (.mk (v := .bool _) rfl rfl)) ?_)
  refine WL.wantG rfl rfl rfl rfl (WL1.give rfl (g_move rfl (.mk (v := .int _ _) rfl rfl)) ?_)
  refine WL.wantG rfl rfl rfl rfl (WL1.give rfl (g_eq rfl (.mk rfl rfl) (.mk rfl rfl) (decide_eq_true (by omega))) ?_)
  refine WL.want rfl (WL1.give rfl (g_pickT rfl (.mk rfl rfl) (.mk (v := .bool _) rfl rfl)) ?_)
  refine WL.want rfl (WL1.give rfl (g_move rfl (.mk (v := .bool _) rfl rfl)) ?_)
  refine WL.wantG rfl rfl rfl rfl (WL1.give rfl (g_move rfl (.mk (v := .slice _ _ _) rfl rfl)) ?_)
  refine WL.wantG rfl rfl rfl rfl (WL1.lit (cs := [_, _]) elB rfl rfl rfl (.cons (.mk (v := .int _ _) rfl rfl) (.cons (.mk (v := .int _ _) rfl rfl) .nil)) rfl (by first | (simp [Value.cells]; done) | fail) rfl rfl (fun b60 => ?_))
  refine WL.wantG rfl rfl rfl rfl (WL1.callP rfl rfl rfl (.cons (.mk (v := .slice _ _ _) rfl rfl) (.cons (.mk (v := .slice _ _ _) rfl rfl) .nil)) (fun w hw => bsame_t (a := [2, 1]) (b := [2, 1]) (Sl.of_vec hw (by repeat (first | exact .head _ | apply List.Mem.tail))) (Sl.of_vec hw (.head _)) rfl rfl rfl) ?_)
  refine WL.want rfl (WL1.give rfl (g_pickT rfl (.mk rfl rfl) (.mk (v := .bool _) rfl rfl)) ?_)
  refine WL.want rfl (WL1.give rfl (g_move rfl (.mk (v := .bool _) rfl rfl)) ?_)
  refine WL.wantG rfl rfl rfl rfl (WL1.give rfl (g_move rfl (.mk (v := .int _ _) rfl rfl)) ?_)
  refine WL.wantG rfl rfl rfl rfl (WL1.give rfl (g_eq rfl (.mk rfl rfl) (.mk rfl rfl) (decide_eq_true (by omega))) ?_)
  refine WL.want rfl (WL1.give rfl (g_pickT rfl (.mk rfl rfl) (.mk (v := .bool _) rfl rfl)) ?_)
  refine WL.want rfl (WL1.give rfl (g_move rfl (.mk (v := .bool _) rfl rfl)) ?_)
  refine WL.wantG rfl rfl rfl rfl (WL1.give rfl (g_move rfl (.mk (v := .slice _ _ _) rfl rfl)) ?_)
  refine WL.wantG rfl rfl rfl rfl (WL1.give rfl (g_move rfl (.mk (v := .slice _ _ _) rfl rfl)) ?_)
  refine WL.wantG rfl rfl rfl rfl (WL1.callP rfl rfl rfl (.cons (.mk (v := .slice _ _ _) rfl rfl) (.cons (.mk (v := .slice _ _ _) rfl rfl) .nil)) (fun w hw => same_t (a := [lb (gn 3), lb (gn 5), lb (gn 6), lb (gn 9), lb (gn 23)]) (b := [lb (gn 3), lb (gn 5), lb (gn 6), lb (gn 9), lb (gn 23)]) (Sl.of_vec hw (by repeat (first | exact .head _ | apply List.Mem.tail))) (Sl.of_vec hw (by repeat (first | exact .head _ | apply List.Mem.tail))) rfl rfl rfl) ?_)
  refine WL.want rfl (WL1.give rfl (g_pickT rfl (.mk rfl rfl) (.mk (v := .bool _) rfl rfl)) ?_)
  refine WL.want rfl (WL1.give rfl (g_move rfl (.mk (v := .bool _) rfl rfl)) ?_)
  refine WL.wantG rfl rfl rfl rfl (WL1.give rfl (g_move rfl (.mk (v := .int _ _) rfl rfl)) ?_)
  refine WL.wantG rfl rfl rfl rfl (WL1.give rfl (g_eq rfl (.mk rfl rfl) (.mk rfl rfl) (decide_eq_true (by omega))) ?_)
  refine WL.want rfl (WL1.give rfl (g_pickT rfl (.mk rfl rfl) (.mk (v := .bool _) rfl rfl)) ?_)
  refine WL.want rfl (WL1.give rfl (g_move rfl (.mk (v := .bool _) rfl rfl)) ?_)
  refine WL.wantG rfl rfl rfl rfl (WL1.give rfl (g_move rfl (.mk (v := .int _ _) rfl rfl)) ?_)
  refine WL.wantG rfl rfl rfl rfl (WL1.give rfl (g_eq rfl (.mk rfl rfl) (.mk rfl rfl) (decide_eq_true (by omega))) ?_)
  refine WL.want rfl (WL1.give rfl (g_pickT rfl (.mk rfl rfl) (.mk (v := .bool _) rfl rfl)) ?_)
  refine WL.want rfl (WL1.give rfl (g_assign rfl (.mk (v := .bool _) rfl rfl)) ?_)
  refine WL.nil ?_
  (refine hK _ _ ?_; clear hK)
  refine WC.ret ?_
  exact fun w' hw' => ⟨rfl, hw'.1⟩
end Go.Proofs.Ytlcddlipcdimeaa
namespace Go.Proofs.Ytlcddlipcdimeaa
open Go.RowKit
attribute [local irreducible] Calls
set_option maxRecDepth 20000 in
set_option maxHeartbeats 4000000 in
theorem restore_n (vp vb : Value) (ps : List Blk) (bs : List Bool) (n : Nat) (w : World) (hp : Sl w 8 vp ps.length (kvs ps)) (hb : Sl w 1 vb bs.length (bls bs)) (h1 : 1 ≤ n) (h2 : n ≤ 13) (hpl : ps.length = n + 3) (hbl : bs.length = n + 3) (hc3 : cnt bs (n + 3) ≤ 3) :
    Calls Try.prog 38 #[vp, vb] w fun e w' => ∃ v' M, e = .returned v' ∧ H w M w' ∧ ∃ A c, v' = .slice A (n + 3) c ∧ M = [vec A (n + 3) c 33 8 (kvs (decL ps bs n))] := by
  obtain ⟨A, c, rfl, hcc, hm, hs⟩ := hp.open_
  obtain ⟨B, d, rfl, hcd, hmd, hsb⟩ := hb.open_
  obtain ⟨m, hmn⟩ : ∃ m, m = n + 3 := ⟨_, rfl⟩
  have hw := gdT_wfr hc3
  have hgl3 := gdT_len (bs := bs) (n := n) (n + 3)
  have hc4 := cnt_le (bs := bs) (n + 3)
  obtain ⟨g0, hg0⟩ : ∃ g0, g0 = gdT bs n (n + 3) := ⟨_, rfl⟩
  rw [← hg0] at hw hgl3
  have hg0l := hw.len
  rw [← hmn] at hpl hbl hg0 hc3 hgl3 ⊢
  have hsub : IntKind.i64.wrap ((m : Int) - 3) = (n : Int) := by rw [IntWalk.i64_in _ (by omega)]; omega
  rw [hpl] at hs hcc
  rw [hbl] at hsb hcd
  rw [hpl, hbl]
  refine calls_wc (args := [.slice A m c, .slice B m d]) [4] [] Try.func38 rfl Try.ntmps38 rfl rfl rfl rfl (H.refl w) ?_
  (refine WC.seq ?_; intro K hK)
  refine WC.region rfl ?_
  refine WL.want rfl (WL1.give rfl (g_assign rfl (.mk (v := .slice _ _ _) rfl rfl)) ?_)
  refine WL.nil ?_
  (refine hK _ _ ?_; clear hK)
  (refine WC.seq ?_; intro K hK)
  refine WC.region rfl ?_
  refine WL.want rfl (WL1.give rfl (g_assign rfl (.mk (v := .slice _ _ _) rfl rfl)) ?_)
  refine WL.nil ?_
  (refine hK _ _ ?_; clear hK)
  (refine WC.seq ?_; intro K hK)
  refine WC.region rfl ?_
  refine WL.want rfl (WL1.give rfl (g_assign rfl (.mk (v := .slice _ _ _) rfl rfl)) ?_)
  refine WL.nil ?_
  (refine hK _ _ ?_; clear hK)
  refine WC.seqF (fun q : (Option Addr × Nat) × (Option Addr × Nat) => [(5, .slice q.1.1 n q.1.2), (6, .slice q.2.1 n q.2.2), (0, .slice A m c), (1, .slice B m d)]) (fun q => [vec q.1.1 n q.1.2 3 1 (ldv g0), vec q.2.1 n q.2.2 33 8 (kvs (g0.map (nth ps)))]) (fun _ => True) ?_ (fun q U2 _ => ?_)
  (refine WC.seq ?_; intro K hK)
  refine WC.region rfl ?_
  refine WL.want rfl (WL1.give rfl (g_assign rfl (.mk (v := .int _ _) rfl rfl)) ?_)
  refine WL.nil ?_
  (refine hK _ _ ?_; clear hK)
  refine WC.block ?_
  rotate_left
  (refine WC.seq ?_; intro K hK)
  refine WC.region rfl ?_
  rotate_left
  · refine WC.nilvec 3 1 (WC.nilvec 33 8 ?_)
    refine WC.loopF5 (fun (i : Nat) (F : Option Addr) (fc : Nat) (Y : Option Addr) (yc : Nat) => [(7, iv i), (5, .slice F (gdT bs n i).length fc), (6, .slice Y (gdT bs n i).length yc), (0, .slice A m c), (1, .slice B m d)]) (fun i F fc Y yc => [vec F (gdT bs n i).length fc 3 1 (ldv (gdT bs n i)), vec Y (gdT bs n i).length yc 33 8 (kvs ((gdT bs n i).map (nth ps)))]) (fun i _ _ _ _ => i ≤ m) (fun i _ _ _ _ => m - i) 0 none 0 none 0 (by repeat (first | exact trivial | refine ⟨rfl, ?_⟩)) (Imp.pick (A := vec none 0 0 3 1 []) (by repeat (first | exact .head | apply Take.tail)) (Imp.pick (A := vec none 0 0 33 8 []) (by repeat (first | exact .head | apply Take.tail)) (Imp.nil _))) (by omega) ?_
    intro i F fc Y yc U hi
    have hgl := gdT_len (bs := bs) (n := n) i
    have hend : ¬ (i < m ∧ (gdT bs n i).length < n) → gdT bs n i = g0 := fun hn => by
      rw [hg0]
      by_cases e : i = m
      · rw [e]
      · have hfull : (gdT bs n i).length = n := by
          have : ¬ (gdT bs n i).length < n := fun h => hn ⟨by omega, h⟩
          omega
        have := gdT_full hfull (m - i)
        rw [show i + (m - i) = m from by omega] at this
        exact this.symm
    obtain ⟨g, hg⟩ : ∃ g, g = gdT bs n i := ⟨_, rfl⟩
    rw [← hg] at hgl hend ⊢
    have hml : (g.map (nth ps)).length = g.length := by rw [List.length_map]
    by_cases hgo : i < m ∧ g.length < n
    · obtain ⟨hlt, hfl⟩ := hgo
      have hgv := bls_get (l := bs) (k := i) (by omega)
      cases hbi : nth bs i with
      | true =>
        rw [hbi] at hgv
        have hst : gdT bs n (i + 1) = g := by rw [gdT_bad hbi, hg]
        (refine WC.seq ?_; intro K hK)
        (refine WC.seq ?_; intro K hK)
        refine WC.region rfl ?_
        refine WL.want rfl (WL1.give rfl (g_move rfl (.mk (v := .int _ _) rfl rfl)) ?_)
        refine WL.want rfl (WL1.give rfl (g_move rfl (.mk (v := .slice _ _ _) rfl rfl)) ?_)
        refine WL.want rfl (WL1.give rfl (g_len rfl (.mk rfl rfl) rfl) ?_)
        refine WL.want rfl (WL1.give rfl (g_lt rfl (.mk rfl rfl) (.mk rfl rfl) (decide_eq_true (by omega))) ?_)
        refine WL.want rfl (WL1.give rfl (g_move rfl (.mk (v := .bool _) rfl rfl)) ?_)
        refine WL.wantG rfl rfl rfl rfl (WL1.give rfl (g_move rfl (.mk (v := .slice _ _ _) rfl rfl)) ?_)
        refine WL.wantG rfl rfl rfl rfl (WL1.give rfl (g_len rfl (.mk rfl rfl) rfl) ?_)
        refine WL.wantG rfl rfl rfl rfl (WL1.give rfl (g_move rfl (.mk (v := .slice _ _ _) rfl rfl)) ?_)
        refine WL.wantG rfl rfl rfl rfl (WL1.give rfl (g_len rfl (.mk rfl rfl) rfl) ?_)
        refine WL.wantG rfl rfl rfl rfl (WL1.give rfl (g_sub rfl (.mk rfl rfl) (.mk rfl rfl) hsub) ?_)
        refine WL.wantG rfl rfl rfl rfl (WL1.give rfl (g_lt rfl (.mk rfl rfl) (.mk rfl rfl) (decide_eq_true (by omega))) ?_)
        refine WL.want rfl (WL1.give rfl (g_pickT rfl (.mk rfl rfl) (.mk (v := .bool _) rfl rfl)) ?_)
        refine WL.nil ?_
        (refine hK _ _ ?_; clear hK)
        refine WC.cond_true (.mk rfl rfl) ?_
        refine WC.skip ?_
        (refine hK _ _ ?_; clear hK)
        (refine WC.seq ?_; intro K hK)
        refine WC.block ?_
        (refine WC.seq ?_; intro K hK)
        refine WC.region rfl ?_
        refine WL.want rfl (WL1.give rfl (g_move rfl (.mk (v := .slice _ _ _) rfl rfl)) ?_)
        refine WL.want rfl (WL1.give rfl (g_move rfl (.mk (v := .int _ _) rfl rfl)) ?_)
        refine WL.want rfl (WL1.give rfl (g_indexAddr (sz := 1) rfl (.mk rfl rfl) (.mk rfl rfl) rfl rfl rfl (by omega) (fun _ _ => sl_some hsb (by omega))) ?_)
        refine WL.want rfl (WL1.give rfl (g_load rfl (.mk rfl rfl) rfl (rd_sl hsb hgv)) ?_)
        refine WL.want rfl (WL1.give rfl (g_notT rfl (.mk rfl rfl)) ?_)
        refine WL.nil ?_
        (refine hK _ _ ?_; clear hK)
        refine WC.cond_false (.mk rfl rfl) ?_
        refine WC.skip ?_
        (refine hK _ _ ?_; clear hK)
        refine WC.region rfl ?_
        refine WL.want rfl (WL1.give rfl (g_move rfl (.mk (v := .int _ _) rfl rfl)) ?_)
        refine WL.want rfl (WL1.give rfl (g_add rfl (.mk rfl rfl) (.mk rfl rfl) (IntWalk.i64_in _ (by omega))) ?_)
        refine WL.want rfl (WL1.give rfl (g_assign rfl (.mk (v := .int _ _) rfl rfl)) ?_)
        refine WL.nil ?_
        exact ⟨i + 1, F, fc, Y, yc, by rw [hst]; exact (by repeat (first | exact trivial | refine ⟨rfl, ?_⟩)), by rw [hst]; exact .refl _, by omega, by omega⟩
      | false =>
        rw [hbi] at hgv
        have hst : gdT bs n (i + 1) = g ++ [i] := by rw [gdT_take hbi (by rw [← hg]; exact hfl), hg]
        have hgd : ∀ j u, (nth ps i).cells[j]? = some u → (kvs ps)[i * 8 + j]? = some u := fun j u h => flat_row blk8 (by omega) j u h
        have hl1 : (g ++ [i]).length = g.length + 1 := by rw [List.length_append]; rfl
        have hmp : (g ++ [i]).map (nth ps) = g.map (nth ps) ++ [nth ps i] := by rw [List.map_append]; rfl
        (refine WC.seq ?_; intro K hK)
        (refine WC.seq ?_; intro K hK)
        refine WC.region rfl ?_
        refine WL.want rfl (WL1.give rfl (g_move rfl (.mk (v := .int _ _) rfl rfl)) ?_)
        refine WL.want rfl (WL1.give rfl (g_move rfl (.mk (v := .slice _ _ _) rfl rfl)) ?_)
        refine WL.want rfl (WL1.give rfl (g_len rfl (.mk rfl rfl) rfl) ?_)
        refine WL.want rfl (WL1.give rfl (g_lt rfl (.mk rfl rfl) (.mk rfl rfl) (decide_eq_true (by omega))) ?_)
        refine WL.want rfl (WL1.give rfl (g_move rfl (.mk (v := .bool _) rfl rfl)) ?_)
        refine WL.wantG rfl rfl rfl rfl (WL1.give rfl (g_move rfl (.mk (v := .slice _ _ _) rfl rfl)) ?_)
        refine WL.wantG rfl rfl rfl rfl (WL1.give rfl (g_len rfl (.mk rfl rfl) rfl) ?_)
        refine WL.wantG rfl rfl rfl rfl (WL1.give rfl (g_move rfl (.mk (v := .slice _ _ _) rfl rfl)) ?_)
        refine WL.wantG rfl rfl rfl rfl (WL1.give rfl (g_len rfl (.mk rfl rfl) rfl) ?_)
        refine WL.wantG rfl rfl rfl rfl (WL1.give rfl (g_sub rfl (.mk rfl rfl) (.mk rfl rfl) hsub) ?_)
        refine WL.wantG rfl rfl rfl rfl (WL1.give rfl (g_lt rfl (.mk rfl rfl) (.mk rfl rfl) (decide_eq_true (by omega))) ?_)
        refine WL.want rfl (WL1.give rfl (g_pickT rfl (.mk rfl rfl) (.mk (v := .bool _) rfl rfl)) ?_)
        refine WL.nil ?_
        (refine hK _ _ ?_; clear hK)
        refine WC.cond_true (.mk rfl rfl) ?_
        refine WC.skip ?_
        (refine hK _ _ ?_; clear hK)
        (refine WC.seq ?_; intro K hK)
        refine WC.block ?_
        (refine WC.seq ?_; intro K hK)
        refine WC.region rfl ?_
        refine WL.want rfl (WL1.give rfl (g_move rfl (.mk (v := .slice _ _ _) rfl rfl)) ?_)
        refine WL.want rfl (WL1.give rfl (g_move rfl (.mk (v := .int _ _) rfl rfl)) ?_)
        refine WL.want rfl (WL1.give rfl (g_indexAddr (sz := 1) rfl (.mk rfl rfl) (.mk rfl rfl) rfl rfl rfl (by omega) (fun _ _ => sl_some hsb (by omega))) ?_)
        refine WL.want rfl (WL1.give rfl (g_load rfl (.mk rfl rfl) rfl (rd_sl hsb hgv)) ?_)
        refine WL.want rfl (WL1.give rfl (g_notF rfl (.mk rfl rfl)) ?_)
        refine WL.nil ?_
        (refine hK _ _ ?_; clear hK)
        refine WC.cond_true (.mk rfl rfl) ?_
        (refine WC.seq ?_; intro K hK)
        refine WC.region rfl ?_
        refine WL.want rfl (WL1.give rfl (g_move rfl (.mk (v := .slice _ _ _) rfl rfl)) ?_)
        refine WL.want rfl (WL1.give rfl (g_move rfl (.mk (v := .int _ _) rfl rfl)) ?_)
        refine WL.want rfl (WL1.lit (cs := [_]) elI rfl rfl rfl (.cons (.mk (v := .int _ _) rfl rfl) .nil) rfl (by first | (simp [Value.cells]; done) | fail) rfl rfl (fun b31 => ?_))
        refine WL.want rfl (WL1.append elI rfl rfl (.mk rfl rfl) (.mk rfl rfl) (.tail (.head)) (fun w hw => Sl.of_vec hw (.head _)) (all1 rfl) (by unfold maxLen; omega) (by omega) (fun A32 c32 => ?_))
        refine WL.want rfl (WL1.give rfl (g_assign rfl (.mk (v := .slice _ _ _) rfl rfl)) ?_)
        refine WL.nil ?_
        (refine hK _ _ ?_; clear hK)
        refine WC.region rfl ?_
        refine WL.want rfl (WL1.give rfl (g_move rfl (.mk (v := .slice _ _ _) rfl rfl)) ?_)
        refine WL.want rfl (WL1.give rfl (g_move rfl (.mk (v := .slice _ _ _) rfl rfl)) ?_)
        refine WL.want rfl (WL1.give rfl (g_move rfl (.mk (v := .int _ _) rfl rfl)) ?_)
        refine WL.want rfl (WL1.give rfl (g_indexAddr (sz := 8) rfl (.mk rfl rfl) (.mk rfl rfl) rfl rfl rfl (by omega) (fun _ _ => sl_some hs (by omega))) ?_)
        refine WL.want rfl (WL1.give rfl (g_loadA rfl (.mk rfl rfl) rfl (sz8 _) (rdr_sl hs (by omega) hgd)) ?_)
        refine WL.want rfl (WL1.lit elK rfl rfl rfl (.cons (.mk (v := .agg _) rfl rfl) .nil) rfl (by first | (simp [Value.cells, Blk.len]; done) | fail) (List.append_nil _) rfl (fun b38 => ?_))
        refine WL.want rfl (WL1.append elK rfl rfl (.mk rfl rfl) (.mk rfl rfl) (.tail (.tail (.tail (.head)))) (fun w hw => Sl.of_vec hw (.head _)) (Blk.one _) (by unfold maxLen; omega) (by omega) (fun A39 c39 => ?_))
        refine WL.want rfl (WL1.give rfl (g_assign rfl (.mk (v := .slice _ _ _) rfl rfl)) ?_)
        refine WL.nil ?_
        (refine hK _ _ ?_; clear hK)
        refine WC.region rfl ?_
        refine WL.want rfl (WL1.give rfl (g_move rfl (.mk (v := .int _ _) rfl rfl)) ?_)
        refine WL.want rfl (WL1.give rfl (g_add rfl (.mk rfl rfl) (.mk rfl rfl) (IntWalk.i64_in _ (by omega))) ?_)
        refine WL.want rfl (WL1.give rfl (g_assign rfl (.mk (v := .int _ _) rfl rfl)) ?_)
        refine WL.nil ?_
        refine ⟨i + 1, A32, c32, A39, c39, by rw [hst, hl1]; exact (by repeat (first | exact trivial | refine ⟨rfl, ?_⟩)), ?_, by omega, by omega⟩
        rw [hst, hl1, hmp, ← ldv_snoc, ← kvs_snoc]
        exact Imp.pick (by repeat (first | exact .head | apply Take.tail)) (Imp.pick (by repeat (first | exact .head | apply Take.tail)) (Imp.nil _))
    · have hge := hend hgo
      rw [hge, hg0l]
      rw [hge] at hgl hgo hml
      by_cases hlt : i < m
      · (refine WC.seq ?_; intro K hK)
        (refine WC.seq ?_; intro K hK)
        refine WC.region rfl ?_
        refine WL.want rfl (WL1.give rfl (g_move rfl (.mk (v := .int _ _) rfl rfl)) ?_)
        refine WL.want rfl (WL1.give rfl (g_move rfl (.mk (v := .slice _ _ _) rfl rfl)) ?_)
        refine WL.want rfl (WL1.give rfl (g_len rfl (.mk rfl rfl) rfl) ?_)
        refine WL.want rfl (WL1.give rfl (g_lt rfl (.mk rfl rfl) (.mk rfl rfl) (decide_eq_true (by omega))) ?_)
        refine WL.want rfl (WL1.give rfl (g_move rfl (.mk (v := .bool _) rfl rfl)) ?_)
        refine WL.wantG rfl rfl rfl rfl (WL1.give rfl (g_move rfl (.mk (v := .slice _ _ _) rfl rfl)) ?_)
        refine WL.wantG rfl rfl rfl rfl (WL1.give rfl (g_len rfl (.mk rfl rfl) rfl) ?_)
        refine WL.wantG rfl rfl rfl rfl (WL1.give rfl (g_move rfl (.mk (v := .slice _ _ _) rfl rfl)) ?_)
        refine WL.wantG rfl rfl rfl rfl (WL1.give rfl (g_len rfl (.mk rfl rfl) rfl) ?_)
        refine WL.wantG rfl rfl rfl rfl (WL1.give rfl (g_sub rfl (.mk rfl rfl) (.mk rfl rfl) hsub) ?_)
        refine WL.wantG rfl rfl rfl rfl (WL1.give rfl (g_lt rfl (.mk rfl rfl) (.mk rfl rfl) (decide_eq_false (by omega))) ?_)
        refine WL.want rfl (WL1.give rfl (g_pickT rfl (.mk rfl rfl) (.mk (v := .bool _) rfl rfl)) ?_)
        refine WL.nil ?_
        (refine hK _ _ ?_; clear hK)
        refine WC.cond_false (.mk rfl rfl) ?_
        refine WC.exit ?_
        exact ⟨((F, fc), (Y, yc)), (by repeat (first | exact trivial | refine ⟨rfl, ?_⟩)), .refl _, trivial⟩
      · (refine WC.seq ?_; intro K hK)
        (refine WC.seq ?_; intro K hK)
        refine WC.region rfl ?_
        refine WL.want rfl (WL1.give rfl (g_move rfl (.mk (v := .int _ _) rfl rfl)) ?_)
        refine WL.want rfl (WL1.give rfl (g_move rfl (.mk (v := .slice _ _ _) rfl rfl)) ?_)
        refine WL.want rfl (WL1.give rfl (g_len rfl (.mk rfl rfl) rfl) ?_)
        refine WL.want rfl (WL1.give rfl (g_lt rfl (.mk rfl rfl) (.mk rfl rfl) (decide_eq_false (by omega))) ?_)
        refine WL.want rfl (WL1.give rfl (g_move rfl (.mk (v := .bool _) rfl rfl)) ?_)
        refine WL.skipG rfl rfl rfl rfl rfl rfl ?_
        refine WL.skipG rfl rfl rfl rfl rfl rfl ?_
        refine WL.skipG rfl rfl rfl rfl rfl rfl ?_
        refine WL.skipG rfl rfl rfl rfl rfl rfl ?_
        refine WL.skipG rfl rfl rfl rfl rfl rfl ?_
        refine WL.skipG rfl rfl rfl rfl rfl rfl ?_
        refine WL.want rfl (WL1.give rfl (g_pickF rfl (.mk rfl rfl) (.mk (v := .bool _) rfl rfl)) ?_)
        refine WL.nil ?_
        (refine hK _ _ ?_; clear hK)
        refine WC.cond_false (.mk rfl rfl) ?_
        refine WC.exit ?_
        exact ⟨((F, fc), (Y, yc)), (by repeat (first | exact trivial | refine ⟨rfl, ?_⟩)), .refl _, trivial⟩
  · obtain ⟨⟨F, fc⟩, ⟨Y, yc⟩⟩ := q
    dsimp only
    have hml : (g0.map (nth ps)).length = n := by rw [List.length_map, hg0l]
    have hd0 : [] ++ kvs ps = kvs (decP ps bs n 0) := by rw [List.nil_append, decP_zero (bs := bs) (by omega)]
    have hz : (0 : Nat) + m = m := Nat.zero_add m
    refine WL.want rfl (WL1.lit (cs := []) elK rfl rfl rfl .nil rfl (by first | (simp [Value.cells]; done) | fail) rfl rfl (fun b40 => ?_))
    refine WL.want rfl (WL1.give rfl (g_move rfl (.mk (v := .slice _ _ _) rfl rfl)) ?_)
    refine WL.want rfl (WL1.append elK rfl rfl (.mk rfl rfl) (.mk rfl rfl) (.head) (fun w hw => Sl.below hs hw.1) (kvs_one _) (by unfold maxLen; omega) (by omega) (fun A42 c42 => ?_))
    refine WL.want rfl (WL1.give rfl (g_assign rfl (.mk (v := .slice _ _ _) rfl rfl)) ?_)
    refine WL.nil ?_
    (refine hK _ _ ?_; clear hK)
    (refine WC.seq ?_; intro K hK)
    (refine WC.seq ?_; intro K hK)
    refine WC.region rfl ?_
    refine WL.want rfl (WL1.give rfl (g_assign rfl (.mk (v := .int _ _) rfl rfl)) ?_)
    refine WL.nil ?_
    (refine hK _ _ ?_; clear hK)
    refine WC.block ?_
    rw [hd0, hz]
    refine WC.loopF (fun j : Nat => [(9, iv j), (5, .slice F n fc), (6, .slice Y n yc), (8, .slice A42 m c42), (0, .slice A m c), (1, .slice B m d)]) (fun j => [vec A42 m c42 33 8 (kvs (decP ps bs n j)), vec F n fc 3 1 (ldv g0), vec Y n yc 33 8 (kvs (g0.map (nth ps)))]) (fun j => j ≤ m) (fun j => m - j) 0 (by repeat (first | exact trivial | refine ⟨rfl, ?_⟩)) (.refl _) (by omega) ?_
    intro j V hj
    have hdl := decP_len ps bs n j
    have hkl : (kvs (decP ps bs n j)).length = m * 8 := by rw [kvs_len, hdl, hmn]
    by_cases hlt2 : j < m
    · have hgv := bls_get (l := bs) (k := j) (by omega)
      cases hbj : nth bs j with
      | false =>
        rw [hbj] at hgv
        (refine WC.seq ?_; intro K hK)
        (refine WC.seq ?_; intro K hK)
        refine WC.region rfl ?_
        refine WL.want rfl (WL1.give rfl (g_move rfl (.mk (v := .int _ _) rfl rfl)) ?_)
        refine WL.want rfl (WL1.give rfl (g_move rfl (.mk (v := .slice _ _ _) rfl rfl)) ?_)
        refine WL.want rfl (WL1.give rfl (g_len rfl (.mk rfl rfl) rfl) ?_)
        refine WL.want rfl (WL1.give rfl (g_lt rfl (.mk rfl rfl) (.mk rfl rfl) (decide_eq_true (by omega))) ?_)
        refine WL.nil ?_
        (refine hK _ _ ?_; clear hK)
        refine WC.cond_true (.mk rfl rfl) ?_
        refine WC.skip ?_
        (refine hK _ _ ?_; clear hK)
        (refine WC.seq ?_; intro K hK)
        refine WC.block ?_
        (refine WC.seq ?_; intro K hK)
        refine WC.region rfl ?_
        refine WL.want rfl (WL1.give rfl (g_move rfl (.mk (v := .slice _ _ _) rfl rfl)) ?_)
        refine WL.want rfl (WL1.give rfl (g_move rfl (.mk (v := .int _ _) rfl rfl)) ?_)
        refine WL.want rfl (WL1.give rfl (g_indexAddr (sz := 1) rfl (.mk rfl rfl) (.mk rfl rfl) rfl rfl rfl (by omega) (fun _ _ => sl_some hsb (by omega))) ?_)
        refine WL.want rfl (WL1.give rfl (g_load rfl (.mk rfl rfl) rfl (rd_sl hsb hgv)) ?_)
        refine WL.nil ?_
        (refine hK _ _ ?_; clear hK)
        refine WC.cond_false (.mk rfl rfl) ?_
        refine WC.skip ?_
        (refine hK _ _ ?_; clear hK)
        refine WC.region rfl ?_
        refine WL.want rfl (WL1.give rfl (g_move rfl (.mk (v := .int _ _) rfl rfl)) ?_)
        refine WL.want rfl (WL1.give rfl (g_add rfl (.mk rfl rfl) (.mk rfl rfl) (IntWalk.i64_in _ (by omega))) ?_)
        refine WL.want rfl (WL1.give rfl (g_assign rfl (.mk (v := .int _ _) rfl rfl)) ?_)
        refine WL.nil ?_
        exact ⟨j + 1, (by repeat (first | exact trivial | refine ⟨rfl, ?_⟩)), by rw [decP_skip (by rw [hbj]; exact Bool.false_ne_true)]; exact .refl _, by omega, by omega⟩
      | true =>
        rw [hbj] at hgv
        have hwt : ∀ w', Sl w' 1 (.slice F n fc) n (ldv g0) → Calls Try.prog 14 #[iv m, .slice F n fc, iv j] w' fun e w2 => ∃ v' M, e = .returned v' ∧ H w' M w2 ∧ ∃ A c, v' = .slice A n c ∧ M = [vec A n c 5 1 (bvs (wts n g0 j))] := fun w' h => rweights_n _ m n j g0 w' (by rw [hg0l]; exact h) hmn h1 h2 hw.helps hlt2
        have hwl := wts_len n g0 j
        have hcb : ∀ (v1 : Value) (w' : World), Sl w' 1 v1 n (bvs (wts n g0 j)) → Sl w' 8 (.slice Y n yc) n (kvs (g0.map (nth ps))) → Calls Try.prog 16 #[v1, .slice Y n yc] w' fun e w2 => e = .returned (kv (comb (wts n g0 j) (g0.map (nth ps)) n)) ∧ Below w'.heap.size w' w2 := fun v1 w' q1 q2 => by
          have := rcombine_e v1 (.slice Y n yc) (wts n g0 j) (g0.map (nth ps)) w' (by rw [hwl]; exact q1) (by rw [hml]; exact q2) (by omega) (by omega)
          rwa [hwl] at this
        have hset : (decP ps bs n j).set j (comb (wts n g0 j) (g0.map (nth ps)) n) = decP ps bs n (j + 1) := by
          have := decP_set (ps := ps) (bs := bs) (n := n) (j := j) (by omega) hbj
          rwa [← hmn, ← hg0] at this
        have hsp : ∀ i0 v0, i0 = j * 8 → v0 = (comb (wts n g0 j) (g0.map (nth ps)) n).cells → spl (kvs (decP ps bs n j)) i0 v0 = kvs (decP ps bs n (j + 1)) := fun i0 v0 h h' => (kvs_spl (by omega) h h').trans (congrArg kvs hset)
        (refine WC.seq ?_; intro K hK)
        (refine WC.seq ?_; intro K hK)
        refine WC.region rfl ?_
        refine WL.want rfl (WL1.give rfl (g_move rfl (.mk (v := .int _ _) rfl rfl)) ?_)
        refine WL.want rfl (WL1.give rfl (g_move rfl (.mk (v := .slice _ _ _) rfl rfl)) ?_)
        refine WL.want rfl (WL1.give rfl (g_len rfl (.mk rfl rfl) rfl) ?_)
        refine WL.want rfl (WL1.give rfl (g_lt rfl (.mk rfl rfl) (.mk rfl rfl) (decide_eq_true (by omega))) ?_)
        refine WL.nil ?_
        (refine hK _ _ ?_; clear hK)
        refine WC.cond_true (.mk rfl rfl) ?_
        refine WC.skip ?_
        (refine hK _ _ ?_; clear hK)
        (refine WC.seq ?_; intro K hK)
        refine WC.block ?_
        (refine WC.seq ?_; intro K hK)
        refine WC.region rfl ?_
        refine WL.want rfl (WL1.give rfl (g_move rfl (.mk (v := .slice _ _ _) rfl rfl)) ?_)
        refine WL.want rfl (WL1.give rfl (g_move rfl (.mk (v := .int _ _) rfl rfl)) ?_)
        refine WL.want rfl (WL1.give rfl (g_indexAddr (sz := 1) rfl (.mk rfl rfl) (.mk rfl rfl) rfl rfl rfl (by omega) (fun _ _ => sl_some hsb (by omega))) ?_)
        refine WL.want rfl (WL1.give rfl (g_load rfl (.mk rfl rfl) rfl (rd_sl hsb hgv)) ?_)
        refine WL.nil ?_
        (refine hK _ _ ?_; clear hK)
        refine WC.cond_true (.mk rfl rfl) ?_
        refine WC.region rfl ?_
        refine WL.want rfl (WL1.give rfl (g_move rfl (.mk (v := .slice _ _ _) rfl rfl)) ?_)
        refine WL.want rfl (WL1.give rfl (g_move rfl (.mk (v := .int _ _) rfl rfl)) ?_)
        refine WL.want rfl (WL1.give rfl (g_move rfl (.mk (v := .slice _ _ _) rfl rfl)) ?_)
        refine WL.want rfl (WL1.give rfl (g_len rfl (.mk rfl rfl) rfl) ?_)
        refine WL.want rfl (WL1.give rfl (g_move rfl (.mk (v := .slice _ _ _) rfl rfl)) ?_)
        refine WL.want rfl (WL1.give rfl (g_move rfl (.mk (v := .int _ _) rfl rfl)) ?_)
        (refine WL.want rfl (WL1.callN rfl rfl rfl (.cons (.mk (v := .int _ _) rfl rfl) (.cons (.mk (v := .slice _ _ _) rfl rfl) (.cons (.mk (v := .int _ _) rfl rfl) .nil))) (fun w hw => hwt w (Sl.of_vec hw (by repeat (first | exact .head _ | apply List.Mem.tail)))) ?_); rintro _ _ ⟨Aw, cw, rfl, rfl⟩)
        refine WL.want rfl (WL1.give rfl (g_move rfl (.mk (v := .slice _ _ _) rfl rfl)) ?_)
        refine WL.want rfl (WL1.callP rfl rfl rfl (.cons (.mk (v := .slice _ _ _) rfl rfl) (.cons (.mk (v := .slice _ _ _) rfl rfl) .nil)) (fun w hw => hcb _ w (Sl.of_vec hw (by repeat (first | exact .head _ | apply List.Mem.tail))) (Sl.of_vec hw (by repeat (first | exact .head _ | apply List.Mem.tail)))) ?_)
        refine WL.want rfl (WL1.give rfl (g_indexAddr (sz := 8) rfl (.mk rfl rfl) (.mk rfl rfl) rfl rfl rfl (by omega) (fun w hw => vec_some hw (.tail _ (.head _)) (by omega))) ?_)
        refine WL.want rfl (WL1.storeVA rfl rfl (.mk rfl rfl) (.mk rfl rfl) (sz8 _) (Blk.one _) (by first | decide | omega | exact Nat.le_of_ble_eq_true rfl | (simp; done) | (simp; omega) | (rw [Blk.len]; omega)) (by first | omega | (rw [Blk.len]; omega) | (simp; done) | (simp; omega)) (.tail (.head)) ?_)
        refine WL.nil ?_
        (refine hK _ _ ?_; clear hK)
        refine WC.region rfl ?_
        refine WL.want rfl (WL1.give rfl (g_move rfl (.mk (v := .int _ _) rfl rfl)) ?_)
        refine WL.want rfl (WL1.give rfl (g_add rfl (.mk rfl rfl) (.mk rfl rfl) (IntWalk.i64_in _ (by omega))) ?_)
        refine WL.want rfl (WL1.give rfl (g_assign rfl (.mk (v := .int _ _) rfl rfl)) ?_)
        refine WL.nil ?_
        refine ⟨j + 1, (by repeat (first | exact trivial | refine ⟨rfl, ?_⟩)), ?_, by omega, by omega⟩
        rw [hsp]
        · exact Imp.pick (by repeat (first | exact .head | apply Take.tail)) (Imp.pick (by repeat (first | exact .head | apply Take.tail)) (Imp.pick (by repeat (first | exact .head | apply Take.tail)) (Imp.nil _)))
        · omega
        · rfl
    · obtain rfl : j = m := by omega
      have hfin : decP ps bs n j = decL ps bs n := by rw [decL, hmn]
      rw [hfin]
      (refine WC.seq ?_; intro K hK)
      (refine WC.seq ?_; intro K hK)
      refine WC.region rfl ?_
      refine WL.want rfl (WL1.give rfl (g_move rfl (.mk (v := .int _ _) rfl rfl)) ?_)
      refine WL.want rfl (WL1.give rfl (g_move rfl (.mk (v := .slice _ _ _) rfl rfl)) ?_)
      refine WL.want rfl (WL1.give rfl (g_len rfl (.mk rfl rfl) rfl) ?_)
      refine WL.want rfl (WL1.give rfl (g_lt rfl (.mk rfl rfl) (.mk rfl rfl) (decide_eq_false (by omega))) ?_)
      refine WL.nil ?_
      (refine hK _ _ ?_; clear hK)
      refine WC.cond_false (.mk rfl rfl) ?_
      refine WC.exit ?_
      (clear hK; refine hK _ _ ?_; clear hK)
      (refine WC.seq ?_; intro K hK)
      refine WC.region rfl ?_
      refine WL.want rfl (WL1.give rfl (g_move rfl (.mk (v := .slice _ _ _) rfl rfl)) ?_)
      refine WL.want rfl (WL1.give rfl (g_assign rfl (.mk (v := .slice _ _ _) rfl rfl)) ?_)
      refine WL.nil ?_
      (refine hK _ _ ?_; clear hK)
      refine WC.ret ?_
      exact fun w' hw' => ⟨_, _, rfl, hw'.sub (.cons_cons _ (.cons _ (.cons _ .slnil))), A42, c42, rfl, rfl⟩
set_option maxRecDepth 20000 in
set_option maxHeartbeats 2000000 in
theorem rdecode_c (vp vb : Value) (ps : List Blk) (bs : List Bool) (n : Nat) (w : World) (hp : Sl w 8 vp ps.length (kvs ps)) (hb : Sl w 1 vb bs.length (bls bs)) (h1 : 1 ≤ n) (h2 : n ≤ 13) (hpl : ps.length = n + 3) (hbl : bs.length = n + 3) :
    Calls Try.prog 22 #[vp, vb] w fun e w' => ∃ v' M, e = .returned v' ∧ H w M w' ∧ ((3 < cnt bs (n + 3) ∧ v' = .tuple #[.slice none 0 0, iv 12]) ∨ (cnt bs (n + 3) ≤ 3 ∧ ∃ A c, v' = .tuple #[.slice A (n + 3) c, iv 0] ∧ M = [vec A (n + 3) c 33 8 (kvs (decL ps bs n))])) := by
  have hcn : ∀ w', Below w.heap.size w w' → Calls Try.prog 19 #[vb] w' fun e w2 => e = .returned (iv (cnt bs (n + 3))) ∧ Below w'.heap.size w' w2 := fun w' hb' => by
    have := count_e vb bs w' (hb.below (w' := w') hb') (by omega)
    rwa [hbl] at this
  have hre := fun hc w' hb' => restore_n vp vb ps bs n w' (hp.below (w' := w') hb') (hb.below (w' := w') hb') h1 h2 hpl hbl hc
  obtain ⟨A, c, rfl, hcc, hm, hs⟩ := hp.open_
  obtain ⟨B, d, rfl, hcd, hmd, hsb⟩ := hb.open_
  by_cases hc : cnt bs (n + 3) ≤ 3
  · refine calls_wc (args := [.slice A ps.length c, .slice B bs.length d]) [4, 5] [] Try.func22 rfl Try.ntmps22 rfl rfl rfl rfl (H.refl w) ?_
    (refine WC.seq ?_; intro K hK)
    refine WC.region rfl ?_
    refine WL.want rfl (WL1.give rfl (g_assign rfl (.mk (v := .slice _ _ _) rfl rfl)) ?_)
    refine WL.want rfl (WL1.give rfl (g_assign rfl (.mk (v := .int _ _) rfl rfl)) ?_)
    refine WL.nil ?_
    (refine hK _ _ ?_; clear hK)
    (refine WC.seq ?_; intro K hK)
    (refine WC.seq ?_; intro K hK)
    refine WC.region rfl ?_
    refine WL.want rfl (WL1.give rfl (g_move rfl (.mk (v := .slice _ _ _) rfl rfl)) ?_)
    refine WL.want rfl (WL1.give rfl (g_len rfl (.mk rfl rfl) rfl) ?_)
    refine WL.want rfl (WL1.give rfl (g_lt rfl (.mk rfl rfl) (.mk rfl rfl) (decide_eq_false (by omega))) ?_)
    refine WL.want rfl (WL1.give rfl (g_move rfl (.mk (v := .bool _) rfl rfl)) ?_)
    refine WL.wantG rfl rfl rfl rfl (WL1.give rfl (g_move rfl (.mk (v := .slice _ _ _) rfl rfl)) ?_)
    refine WL.wantG rfl rfl rfl rfl (WL1.give rfl (g_len rfl (.mk rfl rfl) rfl) ?_)
    refine WL.wantG rfl rfl rfl rfl (WL1.give rfl (g_gt rfl (.mk rfl rfl) (.mk rfl rfl) (decide_eq_false (by omega))) ?_)
    refine WL.want rfl (WL1.give rfl (g_pickF rfl (.mk rfl rfl) (.mk (v := .bool _) rfl rfl)) ?_)
    refine WL.want rfl (WL1.give rfl (g_move rfl (.mk (v := .bool _) rfl rfl)) ?_)
    refine WL.wantG rfl rfl rfl rfl (WL1.give rfl (g_move rfl (.mk (v := .slice _ _ _) rfl rfl)) ?_)
    refine WL.wantG rfl rfl rfl rfl (WL1.give rfl (g_len rfl (.mk rfl rfl) rfl) ?_)
    refine WL.wantG rfl rfl rfl rfl (WL1.give rfl (g_move rfl (.mk (v := .slice _ _ _) rfl rfl)) ?_)
    refine WL.wantG rfl rfl rfl rfl (WL1.give rfl (g_len rfl (.mk rfl rfl) rfl) ?_)
    refine WL.wantG rfl rfl rfl rfl (WL1.give rfl (g_ne rfl (.mk rfl rfl) (.mk rfl rfl) (decide_eq_false (by omega))) ?_)
    refine WL.want rfl (WL1.give rfl (g_pickF rfl (.mk rfl rfl) (.mk (v := .bool _) rfl rfl)) ?_)
    refine WL.nil ?_
    (refine hK _ _ ?_; clear hK)
    refine WC.cond_false (.mk rfl rfl) ?_
    refine WC.skip ?_
    (refine hK _ _ ?_; clear hK)
    (refine WC.seq ?_; intro K hK)
    (refine WC.seq ?_; intro K hK)
    refine WC.region rfl ?_
    refine WL.want rfl (WL1.give rfl (g_move rfl (.mk (v := .slice _ _ _) rfl rfl)) ?_)
    refine WL.want rfl (WL1.callP rfl rfl rfl (.cons (.mk (v := .slice _ _ _) rfl rfl) .nil) (fun w hw => hcn w hw.1) ?_)
    refine WL.want rfl (WL1.give rfl (g_gt rfl (.mk rfl rfl) (.mk rfl rfl) (decide_eq_false (by omega))) ?_)
    refine WL.nil ?_
    (refine hK _ _ ?_; clear hK)
    refine WC.cond_false (.mk rfl rfl) ?_
    refine WC.skip ?_
    (refine hK _ _ ?_; clear hK)
    (refine WC.seq ?_; intro K hK)
    refine WC.region rfl ?_
    refine WL.want rfl (WL1.give rfl (g_move rfl (.mk (v := .slice _ _ _) rfl rfl)) ?_)
    refine WL.want rfl (WL1.give rfl (g_move rfl (.mk (v := .slice _ _ _) rfl rfl)) ?_)
    (refine WL.want rfl (WL1.callN rfl rfl rfl (.cons (.mk (v := .slice _ _ _) rfl rfl) (.cons (.mk (v := .slice _ _ _) rfl rfl) .nil)) (fun w hw => hre hc w hw.1) ?_); rintro _ _ ⟨Ar, cr, rfl, rfl⟩)
    refine WL.want rfl (WL1.give rfl (g_assign rfl (.mk (v := .slice _ _ _) rfl rfl)) ?_)
    refine WL.want rfl (WL1.give rfl (g_assign rfl (.mk (v := .int _ _) rfl rfl)) ?_)
    refine WL.nil ?_
    (refine hK _ _ ?_; clear hK)
    refine WC.ret ?_
    exact fun w' hw' => ⟨_, _, rfl, hw', .inr ⟨hc, Ar, cr, rfl, rfl⟩⟩
  · refine calls_wc (args := [.slice A ps.length c, .slice B bs.length d]) [4, 5] [] Try.func22 rfl Try.ntmps22 rfl rfl rfl rfl (H.refl w) ?_
    (refine WC.seq ?_; intro K hK)
    refine WC.region rfl ?_
    refine WL.want rfl (WL1.give rfl (g_assign rfl (.mk (v := .slice _ _ _) rfl rfl)) ?_)
    refine WL.want rfl (WL1.give rfl (g_assign rfl (.mk (v := .int _ _) rfl rfl)) ?_)
    refine WL.nil ?_
    (refine hK _ _ ?_; clear hK)
    (refine WC.seq ?_; intro K hK)
    (refine WC.seq ?_; intro K hK)
    refine WC.region rfl ?_
    refine WL.want rfl (WL1.give rfl (g_move rfl (.mk (v := .slice _ _ _) rfl rfl)) ?_)
    refine WL.want rfl (WL1.give rfl (g_len rfl (.mk rfl rfl) rfl) ?_)
    refine WL.want rfl (WL1.give rfl (g_lt rfl (.mk rfl rfl) (.mk rfl rfl) (decide_eq_false (by omega))) ?_)
    refine WL.want rfl (WL1.give rfl (g_move rfl (.mk (v := .bool _) rfl rfl)) ?_)
    refine WL.wantG rfl rfl rfl rfl (WL1.give rfl (g_move rfl (.mk (v := .slice _ _ _) rfl rfl)) ?_)
    refine WL.wantG rfl rfl rfl rfl (WL1.give rfl (g_len rfl (.mk rfl rfl) rfl) ?_)
    refine WL.wantG rfl rfl rfl rfl (WL1.give rfl (g_gt rfl (.mk rfl rfl) (.mk rfl rfl) (decide_eq_false (by omega))) ?_)
    refine WL.want rfl (WL1.give rfl (g_pickF rfl (.mk rfl rfl) (.mk (v := .bool _) rfl rfl)) ?_)
    refine WL.want rfl (WL1.give rfl (g_move rfl (.mk (v := .bool _) rfl rfl)) ?_)
    refine WL.wantG rfl rfl rfl rfl (WL1.give rfl (g_move rfl (.mk (v := .slice _ _ _) rfl rfl)) ?_)
    refine WL.wantG rfl rfl rfl rfl (WL1.give rfl (g_len rfl (.mk rfl rfl) rfl) ?_)
    refine WL.wantG rfl rfl rfl rfl (WL1.give rfl (g_move rfl (.mk (v := .slice _ _ _) rfl rfl)) ?_)
    refine WL.wantG rfl rfl rfl rfl (WL1.give rfl (g_len rfl (.mk rfl rfl) rfl) ?_)
    refine WL.wantG rfl rfl rfl rfl (WL1.give rfl (g_ne rfl (.mk rfl rfl) (.mk rfl rfl) (decide_eq_false (by omega))) ?_)
    refine WL.want rfl (WL1.give rfl (g_pickF rfl (.mk rfl rfl) (.mk (v := .bool _) rfl rfl)) ?_)
    refine WL.nil ?_
    (refine hK _ _ ?_; clear hK)
    refine WC.cond_false (.mk rfl rfl) ?_
    refine WC.skip ?_
    (refine hK _ _ ?_; clear hK)
    (refine WC.seq ?_; intro K hK)
    (refine WC.seq ?_; intro K hK)
    refine WC.region rfl ?_
    refine WL.want rfl (WL1.give rfl (g_move rfl (.mk (v := .slice _ _ _) rfl rfl)) ?_)
    refine WL.want rfl (WL1.callP rfl rfl rfl (.cons (.mk (v := .slice _ _ _) rfl rfl) .nil) (fun w hw => hcn w hw.1) ?_)
    refine WL.want rfl (WL1.give rfl (g_gt rfl (.mk rfl rfl) (.mk rfl rfl) (decide_eq_true (by omega))) ?_)
    refine WL.nil ?_
    (refine hK _ _ ?_; clear hK)
    refine WC.cond_true (.mk rfl rfl) ?_
    (refine WC.seq ?_; intro K hK)
    refine WC.region rfl ?_
    refine WL.want rfl (WL1.give rfl (g_assign rfl (.mk (v := .slice _ _ _) rfl rfl)) ?_)
    refine WL.want rfl (WL1.give rfl (g_assign rfl (.mk (v := .int _ _) rfl rfl)) ?_)
    refine WL.nil ?_
    (refine hK _ _ ?_; clear hK)
    refine WC.ret ?_
    exact fun w' hw' => ⟨_, _, rfl, hw', .inl ⟨by omega, rfl⟩⟩
set_option maxRecDepth 20000 in
set_option maxHeartbeats 1000000 in
theorem rdecode_bad (vp vb : Value) (ps : List Blk) (bs : List Bool) (w : World) (hp : Sl w 8 vp ps.length (kvs ps)) (hb : Sl w 1 vb bs.length (bls bs)) (h : ¬ (4 ≤ ps.length ∧ ps.length ≤ 16 ∧ bs.length = ps.length)) :
    Calls Try.prog 22 #[vp, vb] w fun e w' => e = .returned (.tuple #[.slice none 0 0, iv 1]) ∧ Below w.heap.size w w' := by
  obtain ⟨A, c, rfl, hcc, hm, hs⟩ := hp.open_
  obtain ⟨B, d, rfl, hcd, hmd, hsb⟩ := hb.open_
  by_cases h4 : ps.length < 4
  · refine calls_wc (args := [.slice A ps.length c, .slice B bs.length d]) [4, 5] [] Try.func22 rfl Try.ntmps22 rfl rfl rfl rfl (H.refl w) ?_
    (refine WC.seq ?_; intro K hK)
    refine WC.region rfl ?_
    refine WL.want rfl (WL1.give rfl (g_assign rfl (.mk (v := .slice _ _ _) rfl rfl)) ?_)
    refine WL.want rfl (WL1.give rfl (g_assign rfl (.mk (v := .int _ _) rfl rfl)) ?_)
    refine WL.nil ?_
    (refine hK _ _ ?_; clear hK)
    (refine WC.seq ?_; intro K hK)
    (refine WC.seq ?_; intro K hK)
    refine WC.region rfl ?_
    refine WL.want rfl (WL1.give rfl (g_move rfl (.mk (v := .slice _ _ _) rfl rfl)) ?_)
    refine WL.want rfl (WL1.give rfl (g_len rfl (.mk rfl rfl) rfl) ?_)
    refine WL.want rfl (WL1.give rfl (g_lt rfl (.mk rfl rfl) (.mk rfl rfl) (decide_eq_true (by omega))) ?_)
    refine WL.want rfl (WL1.give rfl (g_move rfl (.mk (v := .bool _) rfl rfl)) ?_)
    refine WL.skipG rfl rfl rfl rfl rfl rfl ?_
    refine WL.skipG rfl rfl rfl rfl rfl rfl ?_
    refine WL.skipG rfl rfl rfl rfl rfl rfl ?_
    refine WL.want rfl (WL1.give rfl (g_pickT rfl (.mk rfl rfl) (.mk (v := .bool _) rfl rfl)) ?_)
    refine WL.want rfl (WL1.give rfl (g_move rfl (.mk (v := .bool _) rfl rfl)) ?_)
    refine WL.skipG rfl rfl rfl rfl rfl rfl ?_
    refine WL.skipG rfl rfl rfl rfl rfl rfl ?_
    refine WL.skipG rfl rfl rfl rfl rfl rfl ?_
    refine WL.skipG rfl rfl rfl rfl rfl rfl ?_
    refine WL.skipG rfl rfl rfl rfl rfl rfl ?_
    refine WL.want rfl (WL1.give rfl (g_pickT rfl (.mk rfl rfl) (.mk (v := .bool _) rfl rfl)) ?_)
    refine WL.nil ?_
    (refine hK _ _ ?_; clear hK)
    refine WC.cond_true (.mk rfl rfl) ?_
    (refine WC.seq ?_; intro K hK)
    refine WC.region rfl ?_
    refine WL.want rfl (WL1.give rfl (g_assign rfl (.mk (v := .slice _ _ _) rfl rfl)) ?_)
    refine WL.want rfl (WL1.give rfl (g_assign rfl (.mk (v := .int _ _) rfl rfl)) ?_)
    refine WL.nil ?_
    (refine hK _ _ ?_; clear hK)
    refine WC.ret ?_
    exact fun w' hw' => ⟨rfl, hw'.1⟩
  · by_cases h16 : 16 < ps.length
    · refine calls_wc (args := [.slice A ps.length c, .slice B bs.length d]) [4, 5] [] Try.func22 rfl Try.ntmps22 rfl rfl rfl rfl (H.refl w) ?_
      (refine WC.seq ?_; intro K hK)
      refine WC.region rfl ?_
      refine WL.want rfl (WL1.give rfl (g_assign rfl (.mk (v := .slice _ _ _) rfl rfl)) ?_)
      refine WL.want rfl (WL1.give rfl (g_assign rfl (.mk (v := .int _ _) rfl rfl)) ?_)
      refine WL.nil ?_
      (refine hK _ _ ?_; clear hK)
      (refine WC.seq ?_; intro K hK)
      (refine WC.seq ?_; intro K hK)
      refine WC.region rfl ?_
      refine WL.want rfl (WL1.give rfl (g_move rfl (.mk (v := .slice _ _ _) rfl rfl)) ?_)
      refine WL.want rfl (WL1.give rfl (g_len rfl (.mk rfl rfl) rfl) ?_)
      refine WL.want rfl (WL1.give rfl (g_lt rfl (.mk rfl rfl) (.mk rfl rfl) (decide_eq_false (by omega))) ?_)
      refine WL.want rfl (WL1.give rfl (g_move rfl (.mk (v := .bool _) rfl rfl)) ?_)
      refine WL.wantG rfl rfl rfl rfl (WL1.give rfl (g_move rfl (.mk (v := .slice _ _ _) rfl rfl)) ?_)
      refine WL.wantG rfl rfl rfl rfl (WL1.give rfl (g_len rfl (.mk rfl rfl) rfl) ?_)
      refine WL.wantG rfl rfl rfl rfl (WL1.give rfl (g_gt rfl (.mk rfl rfl) (.mk rfl rfl) (decide_eq_true (by omega))) ?_)
      refine WL.want rfl (WL1.give rfl (g_pickF rfl (.mk rfl rfl) (.mk (v := .bool _) rfl rfl)) ?_)
      refine WL.want rfl (WL1.give rfl (g_move rfl (.mk (v := .bool _) rfl rfl)) ?_)
      refine WL.skipG rfl rfl rfl rfl rfl rfl ?_
      refine WL.skipG rfl rfl rfl rfl rfl rfl ?_
      refine WL.skipG rfl rfl rfl rfl rfl rfl ?_
      refine WL.skipG rfl rfl rfl rfl rfl rfl ?_
      refine WL.skipG rfl rfl rfl rfl rfl rfl ?_
      refine WL.want rfl (WL1.give rfl (g_pickT rfl (.mk rfl rfl) (.mk (v := .bool _) rfl rfl)) ?_)
      refine WL.nil ?_
      (refine hK _ _ ?_; clear hK)
      refine WC.cond_true (.mk rfl rfl) ?_
      (refine WC.seq ?_; intro K hK)
      refine WC.region rfl ?_
      refine WL.want rfl (WL1.give rfl (g_assign rfl (.mk (v := .slice _ _ _) rfl rfl)) ?_)
      refine WL.want rfl (WL1.give rfl (g_assign rfl (.mk (v := .int _ _) rfl rfl)) ?_)
      refine WL.nil ?_
      (refine hK _ _ ?_; clear hK)
      refine WC.ret ?_
      exact fun w' hw' => ⟨rfl, hw'.1⟩
    · have hne : bs.length ≠ ps.length := fun e => h ⟨by omega, by omega, e⟩
      refine calls_wc (args := [.slice A ps.length c, .slice B bs.length d]) [4, 5] [] Try.func22 rfl Try.ntmps22 rfl rfl rfl rfl (H.refl w) ?_
      (refine WC.seq ?_; intro K hK)
      refine WC.region rfl ?_
      refine WL.want rfl (WL1.give rfl (g_assign rfl (.mk (v := .slice _ _ _) rfl rfl)) ?_)
      refine WL.want rfl (WL1.give rfl (g_assign rfl (.mk (v := .int _ _) rfl rfl)) ?_)
      refine WL.nil ?_
      (refine hK _ _ ?_; clear hK)
      (refine WC.seq ?_; intro K hK)
      (refine WC.seq ?_; intro K hK)
      refine WC.region rfl ?_
      refine WL.want rfl (WL1.give rfl (g_move rfl (.mk (v := .slice _ _ _) rfl rfl)) ?_)
      refine WL.want rfl (WL1.give rfl (g_len rfl (.mk rfl rfl) rfl) ?_)
      refine WL.want rfl (WL1.give rfl (g_lt rfl (.mk rfl rfl) (.mk rfl rfl) (decide_eq_false (by omega))) ?_)
      refine WL.want rfl (WL1.give rfl (g_move rfl (.mk (v := .bool _) rfl rfl)) ?_)
      refine WL.wantG rfl rfl rfl rfl (WL1.give rfl (g_move rfl (.mk (v := .slice _ _ _) rfl rfl)) ?_)
      refine WL.wantG rfl rfl rfl rfl (WL1.give rfl (g_len rfl (.mk rfl rfl) rfl) ?_)
      refine WL.wantG rfl rfl rfl rfl (WL1.give rfl (g_gt rfl (.mk rfl rfl) (.mk rfl rfl) (decide_eq_false (by omega))) ?_)
      refine WL.want rfl (WL1.give rfl (g_pickF rfl (.mk rfl rfl) (.mk (v := .bool _) rfl rfl)) ?_)
      refine WL.want rfl (WL1.give rfl (g_move rfl (.mk (v := .bool _) rfl rfl)) ?_)
      refine WL.wantG rfl rfl rfl rfl (WL1.give rfl (g_move rfl (.mk (v := .slice _ _ _) rfl rfl)) ?_)
      refine WL.wantG rfl rfl rfl rfl (WL1.give rfl (g_len rfl (.mk rfl rfl) rfl) ?_)
      refine WL.wantG rfl rfl rfl rfl (WL1.give rfl (g_move rfl (.mk (v := .slice _ _ _) rfl rfl)) ?_)
      refine WL.wantG rfl rfl rfl rfl (WL1.give rfl (g_len rfl (.mk rfl rfl) rfl) ?_)
      refine WL.wantG rfl rfl rfl rfl (WL1.give rfl (g_ne rfl (.mk rfl rfl) (.mk rfl rfl) (decide_eq_true (by omega))) ?_)
      refine WL.want rfl (WL1.give rfl (g_pickF rfl (.mk rfl rfl) (.mk (v := .bool _) rfl rfl)) ?_)
      refine WL.nil ?_
      (refine hK _ _ ?_; clear hK)
      refine WC.cond_true (.mk rfl rfl) ?_
      (refine WC.seq ?_; intro K hK)
      refine WC.region rfl ?_
      refine WL.want rfl (WL1.give rfl (g_assign rfl (.mk (v := .slice _ _ _) rfl rfl)) ?_)
      refine WL.want rfl (WL1.give rfl (g_assign rfl (.mk (v := .int _ _) rfl rfl)) ?_)
      refine WL.nil ?_
      (refine hK _ _ ?_; clear hK)
      refine WC.ret ?_
      exact fun w' hw' => ⟨rfl, hw'.1⟩
end Go.Proofs.Ytlcddlipcdimeaa
namespace Go.Proofs.Ytlcddlipcdimeaa
open Go.RowKit Go.ChangeShapes
section
variable {H : Type} {enc : TypeId × Value → H} {W : World}
theorem flat_sing {α : Type} (f : α → Value) (l : List α) : (l.map fun g => [f g]).flatten = l.map f := by
  induction l with
  | nil => rfl
  | cons a l ih => rw [List.map_cons, List.flatten_cons, ih]; rfl
theorem open_bys {b0 : Nat} {v : Value} {d : DataW H} {p : List MemPlace} (hv : Value.okWide Try.prog W .any b0 24 v) (h : DataW.Trod enc Try.prog W 0 (fun _ => true) true 24 v d p) :
    ∃ l : List G, Sl W 1 v l.length (bvs l) := by
  obtain ⟨css, hs, hc⟩ := open_sl_flat (sz := 1) (ks := [some .u8]) Try.underlying24 (by kernel_rfl) (by omega) (by kernel_rfl) hv h
  obtain ⟨l, rfl, e, _⟩ := each_flat (enc' := fun g : G => [bv g]) (ok := fun _ : G => True) (fun c hc => by
    cases hc with
    | int hw h => cases h; obtain ⟨g, hg⟩ := bv_of hw; exact ⟨g, by rw [hg], trivial⟩) hc
  rw [flat_sing, List.length_map] at hs
  exact ⟨l, hs⟩
theorem open_bools {b0 : Nat} {v : Value} {d : DataW H} {p : List MemPlace} (hv : Value.okWide Try.prog W .any b0 41 v) (h : DataW.Trod enc Try.prog W 0 (fun _ => true) true 41 v d p) :
    ∃ l : List Bool, Sl W 1 v l.length (bls l) := by
  obtain ⟨css, hs, hc⟩ := open_sl_flat (sz := 1) (ks := [none]) Try.underlying41 (by kernel_rfl) (by omega) (by kernel_rfl) hv h
  obtain ⟨l, rfl, e, _⟩ := each_flat (enc' := fun b : Bool => [Value.bool b]) (ok := fun _ : Bool => True) (fun c hc => by
    cases hc with
    | bool h => rename_i b _; cases h; exact ⟨b, rfl, trivial⟩) hc
  rw [flat_sing, List.length_map] at hs
  exact ⟨l, hs⟩
theorem open_u8g {b0 : Nat} {v : Value} {d : DataW H} {p : List MemPlace} (hv : Value.okWide Try.prog W .any b0 5 v) (h : DataW.Trod enc Try.prog W 0 (fun _ => true) true 5 v d p) : ∃ g : G, v = bv g := by
  obtain ⟨n, rfl, _, _, hw⟩ := open_int Try.underlying5 hv h
  obtain ⟨g, hg⟩ := bv_of hw
  exact ⟨g, hg⟩
theorem open_by3 {b0 : Nat} {v : Value} {d : DataW H} {p : List MemPlace} (hv : Value.okWide Try.prog W .any b0 39 v) (h : DataW.Trod enc Try.prog W 0 (fun _ => true) true 39 v d p) : ∃ l : List G, l.length = 3 ∧ v = .agg (bvs l).toArray := by
  obtain ⟨cs, rfl, hl⟩ := open_agg (ks := List.replicate 3 (some .u8)) (by kernel_rfl) (by kernel_rfl) hv h
  obtain ⟨l, h1, rfl⟩ := hl.gs
  exact ⟨l, h1, rfl⟩
theorem open_blk13 {b0 : Nat} {v : Value} {d : DataW H} {p : List MemPlace} (hv : Value.okWide Try.prog W .any b0 38 v) (h : DataW.Trod enc Try.prog W 0 (fun _ => true) true 38 v d p) :
    ∃ l : List Blk, l.length = 13 ∧ v = .agg (kvs l).toArray := by
  obtain ⟨cs, rfl, hl⟩ := open_agg (ks := (List.replicate 13 blkK).flatten) (by kernel_rfl) (by kernel_rfl) hv h
  obtain ⟨l, h1, rfl⟩ := hl.blks
  exact ⟨l, h1, rfl⟩
theorem open_lost {b0 : Nat} {v : Value} {d : DataW H} {p : List MemPlace} (hv : Value.okWide Try.prog W .any b0 51 v) (h : DataW.Trod enc Try.prog W 0 (fun _ => true) true 51 v d p) :
    ∃ (l : List G) (k : List Blk), l.length = 3 ∧ k.length = 3 ∧ v = .agg (bvs l ++ kvs k).toArray := by
  obtain ⟨cs, rfl, hl⟩ := open_agg (ks := List.replicate 3 (some .u8) ++ (List.replicate 3 blkK).flatten) (by kernel_rfl) (by kernel_rfl) hv h
  obtain ⟨c1, c2, rfl, hl1, hl2⟩ := hl.split
  obtain ⟨l, h1, rfl⟩ := hl1.gs
  obtain ⟨k, h2, rfl⟩ := hl2.blks
  exact ⟨l, k, h1, h2, rfl⟩
end
end Go.Proofs.Ytlcddlipcdimeaa
