/- Texts joined: Grp2, Grp3, Grp4, Grp5, Grp6, OpenB, OpenP, Grp12, Grp15, Grp16. The parts say what each of them proves. No condition. -/
import Derived.Test.YtnkbnponpknokaaJl2
namespace Go.Proofs.Ytnkbnponpknokaa
open Go.RowKit
attribute [local irreducible] Calls
theorem vec_at {w0 w : World} {L : List Asrt} {A : Option Addr} {m c sz : Nat} {e : TypeId} {xs : List Value} (hw : H w0 L w) (hm : vec A m c e sz xs ∈ L) (h0 : 0 < m) : ∃ g, A = some ⟨g, 0, none⟩ := by
  rcases ((hw.2.in_ _ hm).1 : w.ownsRow 0 e sz (.slice A m c) m xs).2 with ⟨_, h⟩ | ⟨g, _, _, h, _⟩
  · omega
  · injection h with h; exact ⟨g, h⟩
theorem Imp.prefix_ {A : Option Addr} {m c sz k : Nat} {e : TypeId} {xs : List Value} (L : List Asrt) (hk : k ≤ m) : Imp (vec A m c e sz xs :: L) (vec A k c e sz (xs.take (k * sz)) :: L) where
  foot D hD b hb := by
    rcases List.mem_cons.1 hD with rfl | hD
    · exact ⟨_, .head _, hb⟩
    · exact ⟨D, .tail _ hD, hb⟩
  sep := fun ⟨h1, h2, h3, h4⟩ => by
    refine ⟨?_, h2, h3, h4⟩
    obtain ⟨hl, h⟩ := (h1 : World.ownsRow _ 0 e sz (.slice A m c) m xs)
    have hmul : k * sz ≤ m * sz := Nat.mul_le_mul_right sz hk
    refine ⟨by rw [List.length_take]; omega, ?_⟩
    rcases h with ⟨hv, h0⟩ | ⟨g, cap, cur, hv, q1, q2, q3, q4, q5, q6⟩
    · have hk0 : k = 0 := by omega
      subst hk0
      injection hv with e1 e2 e3
      exact .inl ⟨by rw [e1, e3], rfl⟩
    · injection hv with e1 e2 e3
      refine .inr ⟨g, cap, cur, by rw [e1, e3], q1, q2, by omega, q4, q5, ?_⟩
      rw [← q6, List.take_take, Nat.min_eq_left hmul]
set_option maxRecDepth 20000 in
set_option maxHeartbeats 1000000 in
theorem valid_i (z : Int) (w : World) : Calls Try.prog 41 #[iv z] w fun e w' => e = .returned (.bool (decide (4 ≤ z ∧ z ≤ 16))) ∧ Below w.heap.size w w' := by
  by_cases h1 : 3 < z
  · by_cases h2 : z ≤ 16
    · refine calls_wc (args := [iv z]) [2] [] Try.func41 rfl Try.ntmps41 rfl rfl rfl rfl (H.refl _) ?_
      (refine WC.seq ?_; intro K hK)
      refine WC.region rfl ?_
      refine WL.want rfl (WL1.give rfl (g_assign rfl (.mk (v := .bool _) rfl rfl)) ?_)
      refine WL.nil ?_
      (refine hK _ _ ?_; clear hK)
      (refine WC.seq ?_; intro K hK)
      refine WC.region rfl ?_
      refine WL.want rfl (WL1.give rfl (g_move rfl (.mk (v := .int _ _) rfl rfl)) ?_)
      refine WL.want rfl (WL1.give rfl (g_gt rfl (.mk rfl rfl) (.mk rfl rfl) (decide_eq_true (by omega))) ?_)
      refine WL.want rfl (WL1.give rfl (g_move rfl (.mk (v := .bool _) rfl rfl)) ?_)
      refine WL.wantG rfl rfl rfl rfl (WL1.give rfl (g_move rfl (.mk (v := .int _ _) rfl rfl)) ?_)
      refine WL.wantG rfl rfl rfl rfl (WL1.give rfl (g_le rfl (.mk rfl rfl) (.mk rfl rfl) (decide_eq_true (by omega))) ?_)
      refine WL.want rfl (WL1.give rfl (g_pickT rfl (.mk rfl rfl) (.mk (v := .bool _) rfl rfl)) ?_)
      refine WL.want rfl (WL1.give rfl (g_assign rfl (.mk (v := .bool _) rfl rfl)) ?_)
      refine WL.nil ?_
      (refine hK _ _ ?_; clear hK)
      refine WC.ret ?_
      exact fun w' hw' => ⟨by rw [decide_eq_true (show 4 ≤ z ∧ z ≤ 16 by omega)]; rfl, hw'.1⟩
    · refine calls_wc (args := [iv z]) [2] [] Try.func41 rfl Try.ntmps41 rfl rfl rfl rfl (H.refl _) ?_
      (refine WC.seq ?_; intro K hK)
      refine WC.region rfl ?_
      refine WL.want rfl (WL1.give rfl (g_assign rfl (.mk (v := .bool _) rfl rfl)) ?_)
      refine WL.nil ?_
      (refine hK _ _ ?_; clear hK)
      (refine WC.seq ?_; intro K hK)
      refine WC.region rfl ?_
      refine WL.want rfl (WL1.give rfl (g_move rfl (.mk (v := .int _ _) rfl rfl)) ?_)
      refine WL.want rfl (WL1.give rfl (g_gt rfl (.mk rfl rfl) (.mk rfl rfl) (decide_eq_true (by omega))) ?_)
      refine WL.want rfl (WL1.give rfl (g_move rfl (.mk (v := .bool _) rfl rfl)) ?_)
      refine WL.wantG rfl rfl rfl rfl (WL1.give rfl (g_move rfl (.mk (v := .int _ _) rfl rfl)) ?_)
      refine WL.wantG rfl rfl rfl rfl (WL1.give rfl (g_le rfl (.mk rfl rfl) (.mk rfl rfl) (decide_eq_false (by omega))) ?_)
      refine WL.want rfl (WL1.give rfl (g_pickT rfl (.mk rfl rfl) (.mk (v := .bool _) rfl rfl)) ?_)
      refine WL.want rfl (WL1.give rfl (g_assign rfl (.mk (v := .bool _) rfl rfl)) ?_)
      refine WL.nil ?_
      (refine hK _ _ ?_; clear hK)
      refine WC.ret ?_
      exact fun w' hw' => ⟨by rw [decide_eq_false fun h => h2 h.2]; rfl, hw'.1⟩
  · refine calls_wc (args := [iv z]) [2] [] Try.func41 rfl Try.ntmps41 rfl rfl rfl rfl (H.refl _) ?_
    (refine WC.seq ?_; intro K hK)
    refine WC.region rfl ?_
    refine WL.want rfl (WL1.give rfl (g_assign rfl (.mk (v := .bool _) rfl rfl)) ?_)
    refine WL.nil ?_
    (refine hK _ _ ?_; clear hK)
    (refine WC.seq ?_; intro K hK)
    refine WC.region rfl ?_
    refine WL.want rfl (WL1.give rfl (g_move rfl (.mk (v := .int _ _) rfl rfl)) ?_)
    refine WL.want rfl (WL1.give rfl (g_gt rfl (.mk rfl rfl) (.mk rfl rfl) (decide_eq_false (by omega))) ?_)
    refine WL.want rfl (WL1.give rfl (g_move rfl (.mk (v := .bool _) rfl rfl)) ?_)
    refine WL.skipG rfl rfl rfl rfl rfl rfl ?_
    refine WL.skipG rfl rfl rfl rfl rfl rfl ?_
    refine WL.want rfl (WL1.give rfl (g_pickF rfl (.mk rfl rfl) (.mk (v := .bool _) rfl rfl)) ?_)
    refine WL.want rfl (WL1.give rfl (g_assign rfl (.mk (v := .bool _) rfl rfl)) ?_)
    refine WL.nil ?_
    (refine hK _ _ ?_; clear hK)
    refine WC.ret ?_
    exact fun w' hw' => ⟨by rw [decide_eq_false fun h => h1 (by omega)]; rfl, hw'.1⟩
set_option maxRecDepth 20000 in
set_option maxHeartbeats 1000000 in
theorem wide_i (z : Int) (w : World) : Calls Try.prog 38 #[iv z] w fun e w' => e = .returned (.bool (decide (4 ≤ z ∧ z ≤ 16))) ∧ Below w.heap.size w w' := by
  by_cases h1 : 4 ≤ z
  · by_cases h2 : z ≤ 16
    · refine calls_wc (args := [iv z]) [2] [] Try.func38 rfl Try.ntmps38 rfl rfl rfl rfl (H.refl _) ?_
      (refine WC.seq ?_; intro K hK)
      refine WC.region rfl ?_
      refine WL.want rfl (WL1.give rfl (g_assign rfl (.mk (v := .bool _) rfl rfl)) ?_)
      refine WL.nil ?_
      (refine hK _ _ ?_; clear hK)
      (refine WC.seq ?_; intro K hK)
      refine WC.region rfl ?_
      refine WL.want rfl (WL1.give rfl (g_move rfl (.mk (v := .int _ _) rfl rfl)) ?_)
      refine WL.want rfl (WL1.give rfl (g_ge rfl (.mk rfl rfl) (.mk rfl rfl) (decide_eq_true (by omega))) ?_)
      refine WL.want rfl (WL1.give rfl (g_move rfl (.mk (v := .bool _) rfl rfl)) ?_)
      refine WL.wantG rfl rfl rfl rfl (WL1.give rfl (g_move rfl (.mk (v := .int _ _) rfl rfl)) ?_)
      refine WL.wantG rfl rfl rfl rfl (WL1.give rfl (g_le rfl (.mk rfl rfl) (.mk rfl rfl) (decide_eq_true (by omega))) ?_)
      refine WL.want rfl (WL1.give rfl (g_pickT rfl (.mk rfl rfl) (.mk (v := .bool _) rfl rfl)) ?_)
      refine WL.want rfl (WL1.give rfl (g_assign rfl (.mk (v := .bool _) rfl rfl)) ?_)
      refine WL.nil ?_
      (refine hK _ _ ?_; clear hK)
      refine WC.ret ?_
      exact fun w' hw' => ⟨by rw [decide_eq_true ⟨h1, h2⟩]; rfl, hw'.1⟩
    · refine calls_wc (args := [iv z]) [2] [] Try.func38 rfl Try.ntmps38 rfl rfl rfl rfl (H.refl _) ?_
      (refine WC.seq ?_; intro K hK)
      refine WC.region rfl ?_
      refine WL.want rfl (WL1.give rfl (g_assign rfl (.mk (v := .bool _) rfl rfl)) ?_)
      refine WL.nil ?_
      (refine hK _ _ ?_; clear hK)
      (refine WC.seq ?_; intro K hK)
      refine WC.region rfl ?_
      refine WL.want rfl (WL1.give rfl (g_move rfl (.mk (v := .int _ _) rfl rfl)) ?_)
      refine WL.want rfl (WL1.give rfl (g_ge rfl (.mk rfl rfl) (.mk rfl rfl) (decide_eq_true (by omega))) ?_)
      refine WL.want rfl (WL1.give rfl (g_move rfl (.mk (v := .bool _) rfl rfl)) ?_)
      refine WL.wantG rfl rfl rfl rfl (WL1.give rfl (g_move rfl (.mk (v := .int _ _) rfl rfl)) ?_)
      refine WL.wantG rfl rfl rfl rfl (WL1.give rfl (g_le rfl (.mk rfl rfl) (.mk rfl rfl) (decide_eq_false (by omega))) ?_)
      refine WL.want rfl (WL1.give rfl (g_pickT rfl (.mk rfl rfl) (.mk (v := .bool _) rfl rfl)) ?_)
      refine WL.want rfl (WL1.give rfl (g_assign rfl (.mk (v := .bool _) rfl rfl)) ?_)
      refine WL.nil ?_
      (refine hK _ _ ?_; clear hK)
      refine WC.ret ?_
      exact fun w' hw' => ⟨by rw [decide_eq_false fun h => h2 h.2]; rfl, hw'.1⟩
  · refine calls_wc (args := [iv z]) [2] [] Try.func38 rfl Try.ntmps38 rfl rfl rfl rfl (H.refl _) ?_
    (refine WC.seq ?_; intro K hK)
    refine WC.region rfl ?_
    refine WL.want rfl (WL1.give rfl (g_assign rfl (.mk (v := .bool _) rfl rfl)) ?_)
    refine WL.nil ?_
    (refine hK _ _ ?_; clear hK)
    (refine WC.seq ?_; intro K hK)
    refine WC.region rfl ?_
    refine WL.want rfl (WL1.give rfl (g_move rfl (.mk (v := .int _ _) rfl rfl)) ?_)
    refine WL.want rfl (WL1.give rfl (g_ge rfl (.mk rfl rfl) (.mk rfl rfl) (decide_eq_false (by omega))) ?_)
    refine WL.want rfl (WL1.give rfl (g_move rfl (.mk (v := .bool _) rfl rfl)) ?_)
    refine WL.skipG rfl rfl rfl rfl rfl rfl ?_
    refine WL.skipG rfl rfl rfl rfl rfl rfl ?_
    refine WL.want rfl (WL1.give rfl (g_pickF rfl (.mk rfl rfl) (.mk (v := .bool _) rfl rfl)) ?_)
    refine WL.want rfl (WL1.give rfl (g_assign rfl (.mk (v := .bool _) rfl rfl)) ?_)
    refine WL.nil ?_
    (refine hK _ _ ?_; clear hK)
    refine WC.ret ?_
    exact fun w' hw' => ⟨by rw [decide_eq_false fun h => h1 h.1]; rfl, hw'.1⟩
section
variable {w : World} {b : Nat} {B : Option Addr} {d : Nat} {bs : List Bool}
set_option maxRecDepth 20000 in
set_option maxHeartbeats 1000000 in
theorem pred_good (hc : w.cell? ⟨b, 0, none⟩ = some (.slice B bs.length d)) (hs : Sl w 1 (.slice B bs.length d) bs.length (bls bs)) : Pred w 81 [cellPtr (some ⟨b, 0, none⟩) 0] (fun i => nth bs i) bs.length := by
  refine ⟨by kernel_rfl, fun i hi w' hb => ?_⟩
  have hc' := kept_cell hb hc
  have hs' := hs.below hb
  have hgv := bls_get (l := bs) (k := i) hi
  refine calls_wc (args := [iv i, cellPtr (some ⟨b, 0, none⟩) 0]) [3] [] Try.func81 rfl Try.ntmps81 rfl rfl rfl rfl (H.refl _) ?_
  (refine WC.seq ?_; intro K hK)
  refine WC.region rfl ?_
  refine WL.want rfl (WL1.give rfl (g_assign rfl (.mk (v := .bool _) rfl rfl)) ?_)
  refine WL.nil ?_
  (refine hK _ _ ?_; clear hK)
  (refine WC.seq ?_; intro K hK)
  refine WC.region rfl ?_
  refine WL.want rfl (WL1.give rfl (g_load rfl (.mk rfl rfl) rfl (rd_wb hc')) ?_)
  refine WL.want rfl (WL1.give rfl (g_move rfl (.mk (v := .int _ _) rfl rfl)) ?_)
  refine WL.want rfl (WL1.give rfl (g_indexAddr (sz := 1) rfl (.mk rfl rfl) (.mk rfl rfl) rfl rfl rfl (by omega) (fun _ _ => sl_some hs' (by omega))) ?_)
  refine WL.want rfl (WL1.give rfl (g_load rfl (.mk rfl rfl) rfl (rd_sl hs' hgv)) ?_)
  refine WL.want rfl (WL1.give rfl (g_assign rfl (.mk (v := .bool _) rfl rfl)) ?_)
  refine WL.nil ?_
  (refine hK _ _ ?_; clear hK)
  refine WC.ret ?_
  exact fun w' hw' => ⟨rfl, hw'.1⟩
set_option maxRecDepth 20000 in
set_option maxHeartbeats 1000000 in
theorem pred_reads (hc : w.cell? ⟨b, 0, none⟩ = some (.slice B bs.length d)) (hs : Sl w 1 (.slice B bs.length d) bs.length (bls bs)) : Pred w 45 [cellPtr (some ⟨b, 0, none⟩) 0] (fun i => nth bs i) bs.length := by
  refine ⟨by kernel_rfl, fun i hi w' hb => ?_⟩
  have hc' := kept_cell hb hc
  have hs' := hs.below hb
  have hgv := bls_get (l := bs) (k := i) hi
  refine calls_wc (args := [iv i, cellPtr (some ⟨b, 0, none⟩) 0]) [3] [] Try.func45 rfl Try.ntmps45 rfl rfl rfl rfl (H.refl _) ?_
  (refine WC.seq ?_; intro K hK)
  refine WC.region rfl ?_
  refine WL.want rfl (WL1.give rfl (g_assign rfl (.mk (v := .bool _) rfl rfl)) ?_)
  refine WL.nil ?_
  (refine hK _ _ ?_; clear hK)
  (refine WC.seq ?_; intro K hK)
  refine WC.region rfl ?_
  refine WL.want rfl (WL1.give rfl (g_load rfl (.mk rfl rfl) rfl (rd_wb hc')) ?_)
  refine WL.want rfl (WL1.give rfl (g_move rfl (.mk (v := .int _ _) rfl rfl)) ?_)
  refine WL.want rfl (WL1.give rfl (g_indexAddr (sz := 1) rfl (.mk rfl rfl) (.mk rfl rfl) rfl rfl rfl (by omega) (fun _ _ => sl_some hs' (by omega))) ?_)
  refine WL.want rfl (WL1.give rfl (g_load rfl (.mk rfl rfl) rfl (rd_sl hs' hgv)) ?_)
  refine WL.want rfl (WL1.give rfl (g_assign rfl (.mk (v := .bool _) rfl rfl)) ?_)
  refine WL.nil ?_
  (refine hK _ _ ?_; clear hK)
  refine WC.ret ?_
  exact fun w' hw' => ⟨rfl, hw'.1⟩
set_option maxRecDepth 20000 in
set_option maxHeartbeats 1000000 in
theorem pred_first (hc : w.cell? ⟨b, 0, none⟩ = some (.slice B bs.length d)) (hs : Sl w 1 (.slice B bs.length d) bs.length (bls bs)) : Pred w 78 [cellPtr (some ⟨b, 0, none⟩) 0] (fun i => !nth bs i) bs.length := by
  refine ⟨by kernel_rfl, fun i hi w' hb => ?_⟩
  have hc' := kept_cell hb hc
  have hs' := hs.below hb
  have hgv := bls_get (l := bs) (k := i) hi
  refine calls_wc (args := [iv i, cellPtr (some ⟨b, 0, none⟩) 0]) [3] [] Try.func78 rfl Try.ntmps78 rfl rfl rfl rfl (H.refl _) ?_
  (refine WC.seq ?_; intro K hK)
  refine WC.region rfl ?_
  refine WL.want rfl (WL1.give rfl (g_assign rfl (.mk (v := .bool _) rfl rfl)) ?_)
  refine WL.nil ?_
  (refine hK _ _ ?_; clear hK)
  (refine WC.seq ?_; intro K hK)
  refine WC.region rfl ?_
  refine WL.want rfl (WL1.give rfl (g_load rfl (.mk rfl rfl) rfl (rd_wb hc')) ?_)
  refine WL.want rfl (WL1.give rfl (g_move rfl (.mk (v := .int _ _) rfl rfl)) ?_)
  refine WL.want rfl (WL1.give rfl (g_indexAddr (sz := 1) rfl (.mk rfl rfl) (.mk rfl rfl) rfl rfl rfl (by omega) (fun _ _ => sl_some hs' (by omega))) ?_)
  refine WL.want rfl (WL1.give rfl (g_load rfl (.mk rfl rfl) rfl (rd_sl hs' hgv)) ?_)
  refine WL.want rfl (WL1.give rfl (g_not rfl (.mk rfl rfl)) ?_)
  refine WL.want rfl (WL1.give rfl (g_assign rfl (.mk (v := .bool _) rfl rfl)) ?_)
  refine WL.nil ?_
  (refine hK _ _ ?_; clear hK)
  refine WC.ret ?_
  exact fun w' hw' => ⟨rfl, hw'.1⟩
end
def dP (m : Nat) (T : List Int) (i : Nat) : Bool := decide (m ≤ i + 3) || hasB T i
def rP (m : Nat) (T : List Int) (i : Nat) : Bool := decide (i + 3 < m) && !hasB T i
set_option maxRecDepth 20000 in
set_option maxHeartbeats 1000000 in
theorem pred_delta {w : World} {b b2 m : Nat} {A : Option Addr} {c : Nat} {T : List Int} (hm : 4 ≤ m ∧ m ≤ 16) (hc : w.cell? ⟨b, 0, none⟩ = some (iv m)) (hc2 : w.cell? ⟨b2, 0, none⟩ = some (.slice A T.length c)) (hs : Sl w 1 (.slice A T.length c) T.length (ivs T)) : Pred w 64 [cellPtr (some ⟨b, 0, none⟩) 0, cellPtr (some ⟨b2, 0, none⟩) 0] (dP m T) m := by
  refine ⟨by kernel_rfl, fun i hi w' hb => ?_⟩
  have h1 := kept_cell hb hc
  have h2 := kept_cell hb hc2
  have hct := fun w2 hb2 => contains_e (.slice A T.length c) T i w2 ((hs.below hb).below (w' := w2) hb2)
  by_cases h : m ≤ i + 3
  · have hp : dP m T i = true := by rw [dP, decide_eq_true h]; rfl
    rw [hp]
    refine calls_wc (args := [iv i, cellPtr (some ⟨b, 0, none⟩) 0, cellPtr (some ⟨b2, 0, none⟩) 0]) [4] [] Try.func64 rfl Try.ntmps64 rfl rfl rfl rfl (H.refl _) ?_
    (refine WC.seq ?_; intro K hK)
    refine WC.region rfl ?_
    refine WL.want rfl (WL1.give rfl (g_assign rfl (.mk (v := .bool _) rfl rfl)) ?_)
    refine WL.nil ?_
    (refine hK _ _ ?_; clear hK)
    (refine WC.seq ?_; intro K hK)
    refine WC.region rfl ?_
    refine WL.want rfl (WL1.give rfl (g_move rfl (.mk (v := .int _ _) rfl rfl)) ?_)
    refine WL.want rfl (WL1.give rfl (g_load rfl (.mk rfl rfl) rfl (rd_wb h1)) ?_)
    refine WL.want rfl (WL1.give rfl (g_sub rfl (.mk rfl rfl) (.mk rfl rfl) (IntWalk.i64_in _ (by omega))) ?_)
    refine WL.want rfl (WL1.give rfl (g_ge rfl (.mk rfl rfl) (.mk rfl rfl) (decide_eq_true (by omega))) ?_)
    refine WL.want rfl (WL1.give rfl (g_move rfl (.mk (v := .bool _) rfl rfl)) ?_)
    refine WL.skipG rfl rfl rfl rfl rfl rfl ?_
    refine WL.skipG rfl rfl rfl rfl rfl rfl ?_
    refine WL.skipG rfl rfl rfl rfl rfl rfl ?_
    refine WL.want rfl (WL1.give rfl (g_pickT rfl (.mk rfl rfl) (.mk (v := .bool _) rfl rfl)) ?_)
    refine WL.want rfl (WL1.give rfl (g_assign rfl (.mk (v := .bool _) rfl rfl)) ?_)
    refine WL.nil ?_
    (refine hK _ _ ?_; clear hK)
    refine WC.ret ?_
    exact fun w' hw' => ⟨rfl, hw'.1⟩
  · have hp : dP m T i = hasB T i := by rw [dP, decide_eq_false h]; rfl
    rw [hp]
    refine calls_wc (args := [iv i, cellPtr (some ⟨b, 0, none⟩) 0, cellPtr (some ⟨b2, 0, none⟩) 0]) [4] [] Try.func64 rfl Try.ntmps64 rfl rfl rfl rfl (H.refl _) ?_
    (refine WC.seq ?_; intro K hK)
    refine WC.region rfl ?_
    refine WL.want rfl (WL1.give rfl (g_assign rfl (.mk (v := .bool _) rfl rfl)) ?_)
    refine WL.nil ?_
    (refine hK _ _ ?_; clear hK)
    (refine WC.seq ?_; intro K hK)
    refine WC.region rfl ?_
    refine WL.want rfl (WL1.give rfl (g_move rfl (.mk (v := .int _ _) rfl rfl)) ?_)
    refine WL.want rfl (WL1.give rfl (g_load rfl (.mk rfl rfl) rfl (rd_wb h1)) ?_)
    refine WL.want rfl (WL1.give rfl (g_sub rfl (.mk rfl rfl) (.mk rfl rfl) (IntWalk.i64_in _ (by omega))) ?_)
    refine WL.want rfl (WL1.give rfl (g_ge rfl (.mk rfl rfl) (.mk rfl rfl) (decide_eq_false (by omega))) ?_)
    refine WL.want rfl (WL1.give rfl (g_move rfl (.mk (v := .bool _) rfl rfl)) ?_)
    refine WL.wantG rfl rfl rfl rfl (WL1.give rfl (g_load rfl (.mk rfl rfl) rfl (rd_wb h2)) ?_)
    refine WL.wantG rfl rfl rfl rfl (WL1.give rfl (g_move rfl (.mk (v := .int _ _) rfl rfl)) ?_)
    refine WL.wantG rfl rfl rfl rfl (WL1.callP rfl rfl rfl (.cons (.mk (v := .slice _ _ _) rfl rfl) (.cons (.mk (v := .int _ _) rfl rfl) .nil)) (fun w hw => hct w hw.1) ?_)
    refine WL.want rfl (WL1.give rfl (g_pickF rfl (.mk rfl rfl) (.mk (v := .bool _) rfl rfl)) ?_)
    refine WL.want rfl (WL1.give rfl (g_assign rfl (.mk (v := .bool _) rfl rfl)) ?_)
    refine WL.nil ?_
    (refine hK _ _ ?_; clear hK)
    refine WC.ret ?_
    exact fun w' hw' => ⟨rfl, hw'.1⟩
set_option maxRecDepth 20000 in
set_option maxHeartbeats 1000000 in
theorem pred_recompute {w : World} {b b2 m : Nat} {A : Option Addr} {c : Nat} {T : List Int} (hm : 4 ≤ m ∧ m ≤ 16) (hc : w.cell? ⟨b, 0, none⟩ = some (iv m)) (hc2 : w.cell? ⟨b2, 0, none⟩ = some (.slice A T.length c)) (hs : Sl w 1 (.slice A T.length c) T.length (ivs T)) : Pred w 67 [cellPtr (some ⟨b, 0, none⟩) 0, cellPtr (some ⟨b2, 0, none⟩) 0] (rP m T) m := by
  refine ⟨by kernel_rfl, fun i hi w' hb => ?_⟩
  have h1 := kept_cell hb hc
  have h2 := kept_cell hb hc2
  have hct := fun w2 hb2 => contains_e (.slice A T.length c) T i w2 ((hs.below hb).below (w' := w2) hb2)
  by_cases h : i + 3 < m
  · have hp : rP m T i = !hasB T i := by rw [rP, decide_eq_true h]; rfl
    rw [hp]
    refine calls_wc (args := [iv i, cellPtr (some ⟨b, 0, none⟩) 0, cellPtr (some ⟨b2, 0, none⟩) 0]) [4] [] Try.func67 rfl Try.ntmps67 rfl rfl rfl rfl (H.refl _) ?_
    (refine WC.seq ?_; intro K hK)
    refine WC.region rfl ?_
    refine WL.want rfl (WL1.give rfl (g_assign rfl (.mk (v := .bool _) rfl rfl)) ?_)
    refine WL.nil ?_
    (refine hK _ _ ?_; clear hK)
    (refine WC.seq ?_; intro K hK)
    refine WC.region rfl ?_
    refine WL.want rfl (WL1.give rfl (g_move rfl (.mk (v := .int _ _) rfl rfl)) ?_)
    refine WL.want rfl (WL1.give rfl (g_load rfl (.mk rfl rfl) rfl (rd_wb h1)) ?_)
    refine WL.want rfl (WL1.give rfl (g_sub rfl (.mk rfl rfl) (.mk rfl rfl) (IntWalk.i64_in _ (by omega))) ?_)
    refine WL.want rfl (WL1.give rfl (g_lt rfl (.mk rfl rfl) (.mk rfl rfl) (decide_eq_true (by omega))) ?_)
    refine WL.want rfl (WL1.give rfl (g_move rfl (.mk (v := .bool _) rfl rfl)) ?_)
    refine WL.wantG rfl rfl rfl rfl (WL1.give rfl (g_load rfl (.mk rfl rfl) rfl (rd_wb h2)) ?_)
    refine WL.wantG rfl rfl rfl rfl (WL1.give rfl (g_move rfl (.mk (v := .int _ _) rfl rfl)) ?_)
    refine WL.wantG rfl rfl rfl rfl (WL1.callP rfl rfl rfl (.cons (.mk (v := .slice _ _ _) rfl rfl) (.cons (.mk (v := .int _ _) rfl rfl) .nil)) (fun w hw => hct w hw.1) ?_)
    refine WL.wantG rfl rfl rfl rfl (WL1.give rfl (g_not rfl (.mk rfl rfl)) ?_)
    refine WL.want rfl (WL1.give rfl (g_pickT rfl (.mk rfl rfl) (.mk (v := .bool _) rfl rfl)) ?_)
    refine WL.want rfl (WL1.give rfl (g_assign rfl (.mk (v := .bool _) rfl rfl)) ?_)
    refine WL.nil ?_
    (refine hK _ _ ?_; clear hK)
    refine WC.ret ?_
    exact fun w' hw' => ⟨rfl, hw'.1⟩
  · have hp : rP m T i = false := by rw [rP, decide_eq_false h]; rfl
    rw [hp]
    refine calls_wc (args := [iv i, cellPtr (some ⟨b, 0, none⟩) 0, cellPtr (some ⟨b2, 0, none⟩) 0]) [4] [] Try.func67 rfl Try.ntmps67 rfl rfl rfl rfl (H.refl _) ?_
    (refine WC.seq ?_; intro K hK)
    refine WC.region rfl ?_
    refine WL.want rfl (WL1.give rfl (g_assign rfl (.mk (v := .bool _) rfl rfl)) ?_)
    refine WL.nil ?_
    (refine hK _ _ ?_; clear hK)
    (refine WC.seq ?_; intro K hK)
    refine WC.region rfl ?_
    refine WL.want rfl (WL1.give rfl (g_move rfl (.mk (v := .int _ _) rfl rfl)) ?_)
    refine WL.want rfl (WL1.give rfl (g_load rfl (.mk rfl rfl) rfl (rd_wb h1)) ?_)
    refine WL.want rfl (WL1.give rfl (g_sub rfl (.mk rfl rfl) (.mk rfl rfl) (IntWalk.i64_in _ (by omega))) ?_)
    refine WL.want rfl (WL1.give rfl (g_lt rfl (.mk rfl rfl) (.mk rfl rfl) (decide_eq_false (by omega))) ?_)
    refine WL.want rfl (WL1.give rfl (g_move rfl (.mk (v := .bool _) rfl rfl)) ?_)
    refine WL.skipG rfl rfl rfl rfl rfl rfl ?_
    refine WL.skipG rfl rfl rfl rfl rfl rfl ?_
    refine WL.skipG rfl rfl rfl rfl rfl rfl ?_
    refine WL.skipG rfl rfl rfl rfl rfl rfl ?_
    refine WL.want rfl (WL1.give rfl (g_pickF rfl (.mk rfl rfl) (.mk (v := .bool _) rfl rfl)) ?_)
    refine WL.want rfl (WL1.give rfl (g_assign rfl (.mk (v := .bool _) rfl rfl)) ?_)
    refine WL.nil ?_
    (refine hK _ _ ?_; clear hK)
    refine WC.ret ?_
    exact fun w' hw' => ⟨rfl, hw'.1⟩
set_option maxRecDepth 20000 in
set_option maxHeartbeats 1000000 in
theorem indexf_e (v : Value) (l : List Nat) (f : FuncId) (caps : List Value) (p : Nat → Bool) (n : Nat) (w : World) (hv : Sl w 1 v l.length (ldv l)) (hp : Pred w f caps p n) (hl : ∀ k, k < l.length → nth l k < n) :
    Calls Try.prog 91 #[v, .func (.func f) #[] caps.toArray] w fun e w' => e = .returned (iv (fz (fnd (fun k => p (nth l k)) l.length))) ∧ Below w.heap.size w w' := by
  obtain ⟨A, cc, rfl, hcc, hm, hs⟩ := hv.open_
  have hok := hp.ok
  unfold maxLen at hm
  refine calls_wc (args := [.slice A l.length cc, .func (.func f) #[] caps.toArray]) [4] [] Try.func91 rfl Try.ntmps91 rfl rfl rfl rfl (H.refl _) ?_
  (refine WC.seq ?_; intro K hK)
  refine WC.region rfl ?_
  refine WL.want rfl (WL1.give rfl (g_assign rfl (.mk (v := .int _ _) rfl rfl)) ?_)
  refine WL.nil ?_
  (refine hK _ _ ?_; clear hK)
  (refine WC.seq ?_; intro K hK)
  (refine WC.seq ?_; intro K hK)
  refine WC.region rfl ?_
  refine WL.want rfl (WL1.give rfl (g_move rfl (.mk (v := .slice _ _ _) rfl rfl)) ?_)
  refine WL.want rfl (WL1.give rfl (g_len rfl (.mk rfl rfl) rfl) ?_)
  refine WL.want rfl (WL1.give rfl (g_move rfl (.mk (v := .int _ _) rfl rfl)) ?_)
  refine WL.nil ?_
  (refine hK _ _ ?_; clear hK)
  refine WC.block ?_
  refine WC.loopF (fun k : Nat => [(8, iv k), (7, iv l.length), (0, .slice A l.length cc), (1, .func (.func f) #[] caps.toArray)]) (fun _ => []) (fun k => k ≤ l.length ∧ ∀ j, j < k → p (nth l j) = false) (fun k => l.length - k) 0 (by repeat (first | exact trivial | refine ⟨rfl, ?_⟩)) (Imp.nil _) ⟨by omega, fun j hj => absurd hj (by omega)⟩ ?_
  rintro k U ⟨hk, hq⟩
  by_cases hlt : k < l.length
  · have hgv := ldv_get hlt
    have hr := hp.run (nth l k) (hl k hlt)
    cases hz : p (nth l k) with
    | false =>
      rw [hz] at hr
      (refine WC.seq ?_; intro K hK)
      refine WC.region rfl ?_
      refine WL.want rfl (WL1.give rfl (g_lt rfl (.mk rfl rfl) (.mk rfl rfl) (decide_eq_true (by omega))) ?_)
      refine WL.nil ?_
      (refine hK _ _ ?_; clear hK)
      (refine WC.seq ?_; intro K hK)
      refine WC.cond_true (.mk rfl rfl) ?_
      refine WC.skip ?_
      (refine hK _ _ ?_; clear hK)
      (refine WC.seq ?_; intro K hK)
      refine WC.block ?_
      (refine WC.seq ?_; intro K hK)
      refine WC.region rfl ?_
      refine WL.want rfl (WL1.give rfl (g_move rfl (.mk (v := .int _ _) rfl rfl)) ?_)
      refine WL.want rfl (WL1.give rfl (g_assign rfl (.mk (v := .int _ _) rfl rfl)) ?_)
      refine WL.nil ?_
      (refine hK _ _ ?_; clear hK)
      (refine WC.seq ?_; intro K hK)
      refine WC.region rfl ?_
      refine WL.want rfl (WL1.give rfl (g_move rfl (.mk (v := .func _ _ _) rfl rfl)) ?_)
      refine WL.want rfl (WL1.give rfl (g_move rfl (.mk (v := .slice _ _ _) rfl rfl)) ?_)
      refine WL.want rfl (WL1.give rfl (g_move rfl (.mk (v := .int _ _) rfl rfl)) ?_)
      refine WL.want rfl (WL1.give rfl (g_indexAddr (sz := 1) rfl (.mk rfl rfl) (.mk rfl rfl) rfl rfl rfl (by omega) (fun _ _ => sl_some hs (by omega))) ?_)
      refine WL.want rfl (WL1.give rfl (g_load rfl (.mk rfl rfl) rfl (rd_sl hs hgv)) ?_)
      refine WL.want rfl (WL1.callVP rfl rfl (.mk rfl rfl) (by first | assumption | rfl) (.cons (.mk (v := .int _ _) rfl rfl) .nil) (fun w hw => hr w hw.1) ?_)
      refine WL.nil ?_
      (refine hK _ _ ?_; clear hK)
      refine WC.cond_false (.mk rfl rfl) ?_
      refine WC.skip ?_
      (refine hK _ _ ?_; clear hK)
      refine WC.region rfl ?_
      refine WL.want rfl (WL1.give rfl (g_add rfl (.mk rfl rfl) (.mk rfl rfl) (IntWalk.i64_in _ (by omega))) ?_)
      refine WL.want rfl (WL1.give rfl (g_move rfl (.mk (v := .int _ _) rfl rfl)) ?_)
      refine WL.nil ?_
      refine ⟨k + 1, (by repeat (first | exact trivial | refine ⟨rfl, ?_⟩)), .refl _, ⟨by omega, fun j hj => ?_⟩, by omega⟩
      by_cases e : j = k
      · rw [e]; exact hz
      · exact hq j (by omega)
    | true =>
      rw [hz] at hr
      (refine WC.seq ?_; intro K hK)
      refine WC.region rfl ?_
      refine WL.want rfl (WL1.give rfl (g_lt rfl (.mk rfl rfl) (.mk rfl rfl) (decide_eq_true (by omega))) ?_)
      refine WL.nil ?_
      (refine hK _ _ ?_; clear hK)
      (refine WC.seq ?_; intro K hK)
      refine WC.cond_true (.mk rfl rfl) ?_
      refine WC.skip ?_
      (refine hK _ _ ?_; clear hK)
      (refine WC.seq ?_; intro K hK)
      refine WC.block ?_
      (refine WC.seq ?_; intro K hK)
      refine WC.region rfl ?_
      refine WL.want rfl (WL1.give rfl (g_move rfl (.mk (v := .int _ _) rfl rfl)) ?_)
      refine WL.want rfl (WL1.give rfl (g_assign rfl (.mk (v := .int _ _) rfl rfl)) ?_)
      refine WL.nil ?_
      (refine hK _ _ ?_; clear hK)
      (refine WC.seq ?_; intro K hK)
      refine WC.region rfl ?_
      refine WL.want rfl (WL1.give rfl (g_move rfl (.mk (v := .func _ _ _) rfl rfl)) ?_)
      refine WL.want rfl (WL1.give rfl (g_move rfl (.mk (v := .slice _ _ _) rfl rfl)) ?_)
      refine WL.want rfl (WL1.give rfl (g_move rfl (.mk (v := .int _ _) rfl rfl)) ?_)
      refine WL.want rfl (WL1.give rfl (g_indexAddr (sz := 1) rfl (.mk rfl rfl) (.mk rfl rfl) rfl rfl rfl (by omega) (fun _ _ => sl_some hs (by omega))) ?_)
      refine WL.want rfl (WL1.give rfl (g_load rfl (.mk rfl rfl) rfl (rd_sl hs hgv)) ?_)
      refine WL.want rfl (WL1.callVP rfl rfl (.mk rfl rfl) (by first | assumption | rfl) (.cons (.mk (v := .int _ _) rfl rfl) .nil) (fun w hw => hr w hw.1) ?_)
      refine WL.nil ?_
      (refine hK _ _ ?_; clear hK)
      refine WC.cond_true (.mk rfl rfl) ?_
      (refine WC.seq ?_; intro K hK)
      refine WC.region rfl ?_
      refine WL.want rfl (WL1.give rfl (g_move rfl (.mk (v := .int _ _) rfl rfl)) ?_)
      refine WL.want rfl (WL1.give rfl (g_assign rfl (.mk (v := .int _ _) rfl rfl)) ?_)
      refine WL.nil ?_
      (refine hK _ _ ?_; clear hK)
      refine WC.ret ?_
      exact fun w' hw' => ⟨by rw [fnd_eq (p := fun k => p (nth l k)) hlt hz hq]; rfl, hw'.1⟩
  · obtain rfl : k = l.length := by omega
    (refine WC.seq ?_; intro K hK)
    refine WC.region rfl ?_
    refine WL.want rfl (WL1.give rfl (g_lt rfl (.mk rfl rfl) (.mk rfl rfl) (decide_eq_false (by omega))) ?_)
    refine WL.nil ?_
    (refine hK _ _ ?_; clear hK)
    (refine WC.seq ?_; intro K hK)
    refine WC.cond_false (.mk rfl rfl) ?_
    refine WC.exit ?_
    (clear hK; refine hK _ _ ?_; clear hK)
    (refine WC.seq ?_; intro K hK)
    refine WC.region rfl ?_
    refine WL.want rfl (WL1.give rfl (g_assign rfl (.mk (v := .int _ _) rfl rfl)) ?_)
    refine WL.nil ?_
    (refine hK _ _ ?_; clear hK)
    refine WC.ret ?_
    exact fun w' hw' => ⟨by rw [fnd_all hq]; rfl, hw'.1⟩
set_option maxRecDepth 20000 in
set_option maxHeartbeats 1000000 in
theorem containsf_e (v : Value) (l : List Nat) (f : FuncId) (caps : List Value) (p : Nat → Bool) (n : Nat) (w : World) (hv : Sl w 1 v l.length (ldv l)) (hp : Pred w f caps p n) (hl : ∀ k, k < l.length → nth l k < n) :
    Calls Try.prog 80 #[v, .func (.func f) #[] caps.toArray] w fun e w' => e = .returned (.bool (fnd (fun k => p (nth l k)) l.length).isSome) ∧ Below w.heap.size w w' := by
  have hix := fun w' (hb : Below w.heap.size w w') => indexf_e v l f caps p n w' (hv.below hb) ⟨hp.ok, fun i hi w2 hb2 => hp.run i hi w2 (hb.trans (hb2.mono hb.size))⟩ hl
  obtain ⟨o, ho⟩ : ∃ o, o = fnd (fun k => p (nth l k)) l.length := ⟨_, rfl⟩
  rw [← ho] at hix ⊢
  have hb := fz_ge o
  refine calls_wc (args := [v, .func (.func f) #[] caps.toArray]) [4] [] Try.func80 rfl Try.ntmps80 rfl rfl rfl rfl (H.refl _) ?_
  (refine WC.seq ?_; intro K hK)
  refine WC.region rfl ?_
  refine WL.want rfl (WL1.give rfl (g_assign rfl (.mk (v := .bool _) rfl rfl)) ?_)
  refine WL.nil ?_
  (refine hK _ _ ?_; clear hK)
  (refine WC.seq ?_; intro K hK)
  refine WC.region rfl ?_
  refine WL.want rfl (WL1.give rfl (g_move rfl (.mk rfl (by conv => lhs; whnf))) ?_)
  refine WL.want rfl (WL1.give rfl (g_move rfl (.mk (v := .func _ _ _) rfl rfl)) ?_)
  refine WL.want rfl (WL1.callP rfl rfl rfl (.cons (.mk rfl (by conv => lhs; whnf)) (.cons (.mk (v := .func _ _ _) rfl rfl) .nil)) (fun w hw => hix w hw.1) ?_)
  refine WL.want rfl (WL1.give rfl (g_ge rfl (.mk rfl rfl) (.mk rfl rfl) hb) ?_)
  refine WL.want rfl (WL1.give rfl (g_assign rfl (.mk (v := .bool _) rfl rfl)) ?_)
  refine WL.nil ?_
  (refine hK _ _ ?_; clear hK)
  refine WC.ret ?_
  exact fun w' hw' => ⟨rfl, hw'.1⟩
/-- None of these is bad. -/
def goodL (l : List Nat) (bs : List Bool) : Bool := !(fnd (fun k => nth bs (nth l k)) l.length).isSome
set_option maxRecDepth 20000 in
set_option maxHeartbeats 1000000 in
theorem good_e (vl vb : Value) (l : List Nat) (bs : List Bool) (w : World) (hv : Sl w 1 vl l.length (ldv l)) (hb : Sl w 1 vb bs.length (bls bs)) (hl : ∀ k, k < l.length → nth l k < bs.length) :
    Calls Try.prog 66 #[vl, vb] w fun e w' => e = .returned (.bool (goodL l bs)) ∧ Below w.heap.size w w' := by
  obtain ⟨B, d, rfl, hcd, hmd, hsb⟩ := hb.open_
  obtain ⟨A, c, rfl, hcc, hm, hs⟩ := hv.open_
  refine calls_wc (args := [.slice A l.length c, .slice B bs.length d]) [4] [] Try.func66 rfl Try.ntmps66 rfl rfl rfl rfl (H.refl _) ?_
  (refine WC.seq ?_; intro K hK)
  refine WC.region rfl ?_
  refine WL.want rfl (WL1.box rfl rfl (.mk (v := .slice _ _ _) rfl rfl) rfl (fun b3 => ?_))
  refine WL.want rfl (WL1.give rfl (g_assign rfl (.mk (v := .bool _) rfl rfl)) ?_)
  refine WL.nil ?_
  (refine hK _ _ ?_; clear hK)
  (refine WC.seq ?_; intro K hK)
  refine WC.region rfl ?_
  refine WL.want rfl (WL1.give rfl (g_move rfl (.mk (v := .slice _ _ _) rfl rfl)) ?_)
  refine WL.want rfl (WL1.give rfl (g_makeFunc rfl (.cons (.mk (v := cellPtr _ _) rfl rfl) .nil)) ?_)
  refine WL.want rfl (WL1.callP rfl rfl rfl (.cons (.mk (v := .slice _ _ _) rfl rfl) (.cons (.mk (v := .func _ _ _) rfl rfl) .nil)) (fun w hw => containsf_e _ l _ [cellPtr (some ⟨b3, 0, none⟩) 0] (fun i => nth bs i) bs.length w (hs.below hw.1) (pred_good (cell_pt hw (by repeat (first | exact .head _ | apply List.Mem.tail)) rfl) (hsb.below hw.1)) hl) ?_)
  refine WL.want rfl (WL1.give rfl (g_not rfl (.mk rfl rfl)) ?_)
  refine WL.want rfl (WL1.give rfl (g_assign rfl (.mk (v := .bool _) rfl rfl)) ?_)
  refine WL.nil ?_
  (refine hK _ _ ?_; clear hK)
  refine WC.ret ?_
  exact fun w' hw' => ⟨rfl, hw'.1⟩
end Go.Proofs.Ytnkbnponpknokaa
namespace Go.Proofs.Ytnkbnponpknokaa
open Go.RowKit
attribute [local irreducible] Calls
theorem numL_lt (p : Nat → Bool) : ∀ n, ∀ k, k < (numL p n).length → nth (numL p n) k < n
  | 0, k, h => absurd h (by simp [numL])
  | n + 1, k, h => by
    have ih := numL_lt p n
    by_cases hp : p n = true
    · have e : numL p (n + 1) = numL p n ++ [n] := by rw [numL, if_pos hp]
      rw [e, List.length_append] at h
      simp only [List.length_cons, List.length_nil] at h
      rw [e]
      by_cases hk : k < (numL p n).length
      · have : nth (numL p n ++ [n]) k = nth (numL p n) k := by unfold nth; simp [List.getD_eq_getElem?_getD, List.getElem?_append_left hk]
        rw [this]; have := ih k hk; omega
      · have : nth (numL p n ++ [n]) k = n := by unfold nth; rw [List.getD_eq_getElem?_getD, List.getElem?_append_right (by omega), show k - (numL p n).length = 0 from by omega]; rfl
        rw [this]; omega
    · have e : numL p (n + 1) = numL p n := by rw [numL, if_neg hp]
      rw [e] at h ⊢
      have := ih k h; omega
section
variable {w : World} {A B : Option Addr} {c d : Nat} {T : List Int} {bs : List Bool}
set_option maxRecDepth 20000 in
set_option maxHeartbeats 1000000 in
theorem delta_n (hm : 4 ≤ bs.length ∧ bs.length ≤ 16) (hs : Sl w 1 (.slice A T.length c) T.length (ivs T)) (hsb : Sl w 1 (.slice B bs.length d) bs.length (bls bs)) :
    Calls Try.prog 49 #[iv bs.length, .slice A T.length c, .slice B bs.length d] w fun e w' => ∃ v' M, e = .returned v' ∧ H w M w' ∧ ∃ A1 c1, v' = .tuple #[.slice A1 (numL (dP bs.length T) bs.length).length c1, .bool (goodL (numL (dP bs.length T) bs.length) bs)] ∧ M = [vec A1 (numL (dP bs.length T) bs.length).length c1 3 1 (ldv (numL (dP bs.length T) bs.length))] := by
  have hlt := numL_lt (dP bs.length T) bs.length
  refine calls_wc (args := [iv bs.length, .slice A T.length c, .slice B bs.length d]) [6, 7] [] Try.func49 rfl Try.ntmps49 rfl rfl rfl rfl (H.refl _) ?_
  (refine WC.seq ?_; intro K hK)
  refine WC.region rfl ?_
  refine WL.want rfl (WL1.box rfl rfl (.mk (v := .int _ _) rfl rfl) rfl (fun b3 => ?_))
  refine WL.want rfl (WL1.box rfl rfl (.mk (v := .slice _ _ _) rfl rfl) rfl (fun b4 => ?_))
  refine WL.want rfl (WL1.give rfl (g_assign rfl (.mk (v := .slice _ _ _) rfl rfl)) ?_)
  refine WL.want rfl (WL1.give rfl (g_assign rfl (.mk (v := .bool _) rfl rfl)) ?_)
  refine WL.nil ?_
  (refine hK _ _ ?_; clear hK)
  (refine WC.seq ?_; intro K hK)
  refine WC.region rfl ?_
  refine WL.want rfl (WL1.give rfl (g_load rfl (.mk rfl rfl) rfl (rd_pt (by repeat (first | exact .head _ | apply List.Mem.tail)) rfl)) ?_)
  refine WL.want rfl (WL1.give rfl (g_makeFunc rfl (.cons (.mk (v := cellPtr _ _) rfl rfl) (.cons (.mk (v := cellPtr _ _) rfl rfl) .nil))) ?_)
  (refine WL.want rfl (WL1.callN rfl rfl rfl (.cons (.mk (v := .int _ _) rfl rfl) (.cons (.mk (v := .func _ _ _) rfl rfl) .nil)) (fun w hw => numbers_n _ [cellPtr (some ⟨b3, 0, none⟩) 0, cellPtr (some ⟨b4, 0, none⟩) 0] (dP bs.length T) bs.length w (pred_delta hm (cell_pt hw (by repeat (first | exact .head _ | apply List.Mem.tail)) rfl) (cell_pt hw (by repeat (first | exact .head _ | apply List.Mem.tail)) rfl) (hs.below hw.1)) (by omega)) ?_); rintro _ _ ⟨A1, c1, rfl, rfl⟩)
  refine WL.want rfl (WL1.give rfl (g_assign rfl (.mk (v := .slice _ _ _) rfl rfl)) ?_)
  refine WL.nil ?_
  (refine hK _ _ ?_; clear hK)
  (refine WC.seq ?_; intro K hK)
  refine WC.region rfl ?_
  refine WL.want rfl (WL1.give rfl (g_move rfl (.mk (v := .slice _ _ _) rfl rfl)) ?_)
  refine WL.want rfl (WL1.give rfl (g_move rfl (.mk (v := .slice _ _ _) rfl rfl)) ?_)
  refine WL.want rfl (WL1.give rfl (g_move rfl (.mk (v := .slice _ _ _) rfl rfl)) ?_)
  refine WL.want rfl (WL1.callP rfl rfl rfl (.cons (.mk (v := .slice _ _ _) rfl rfl) (.cons (.mk (v := .slice _ _ _) rfl rfl) .nil)) (fun w hw => good_e _ _ (numL (dP bs.length T) bs.length) bs w (Sl.of_vec hw (by repeat (first | exact .head _ | apply List.Mem.tail))) (hsb.below hw.1) hlt) ?_)
  refine WL.want rfl (WL1.give rfl (g_assign rfl (.mk (v := .slice _ _ _) rfl rfl)) ?_)
  refine WL.want rfl (WL1.give rfl (g_assign rfl (.mk (v := .bool _) rfl rfl)) ?_)
  refine WL.nil ?_
  (refine hK _ _ ?_; clear hK)
  refine WC.ret ?_
  exact fun w' hw' => ⟨_, _, rfl, hw'.sub (.cons_cons _ (.cons _ (.cons _ .slnil))), A1, c1, rfl, rfl⟩
set_option maxRecDepth 20000 in
set_option maxHeartbeats 1000000 in
theorem recompute_n (hm : 4 ≤ bs.length ∧ bs.length ≤ 16) (hs : Sl w 1 (.slice A T.length c) T.length (ivs T)) (hsb : Sl w 1 (.slice B bs.length d) bs.length (bls bs)) :
    Calls Try.prog 50 #[iv bs.length, .slice A T.length c, .slice B bs.length d] w fun e w' => ∃ v' M, e = .returned v' ∧ H w M w' ∧ ∃ A1 c1, v' = .tuple #[.slice A1 (numL (rP bs.length T) bs.length).length c1, .bool (goodL (numL (rP bs.length T) bs.length) bs)] ∧ M = [vec A1 (numL (rP bs.length T) bs.length).length c1 3 1 (ldv (numL (rP bs.length T) bs.length))] := by
  have hlt := numL_lt (rP bs.length T) bs.length
  refine calls_wc (args := [iv bs.length, .slice A T.length c, .slice B bs.length d]) [6, 7] [] Try.func50 rfl Try.ntmps50 rfl rfl rfl rfl (H.refl _) ?_
  (refine WC.seq ?_; intro K hK)
  refine WC.region rfl ?_
  refine WL.want rfl (WL1.box rfl rfl (.mk (v := .int _ _) rfl rfl) rfl (fun b3 => ?_))
  refine WL.want rfl (WL1.box rfl rfl (.mk (v := .slice _ _ _) rfl rfl) rfl (fun b4 => ?_))
  refine WL.want rfl (WL1.give rfl (g_assign rfl (.mk (v := .slice _ _ _) rfl rfl)) ?_)
  refine WL.want rfl (WL1.give rfl (g_assign rfl (.mk (v := .bool _) rfl rfl)) ?_)
  refine WL.nil ?_
  (refine hK _ _ ?_; clear hK)
  (refine WC.seq ?_; intro K hK)
  refine WC.region rfl ?_
  refine WL.want rfl (WL1.give rfl (g_load rfl (.mk rfl rfl) rfl (rd_pt (by repeat (first | exact .head _ | apply List.Mem.tail)) rfl)) ?_)
  refine WL.want rfl (WL1.give rfl (g_makeFunc rfl (.cons (.mk (v := cellPtr _ _) rfl rfl) (.cons (.mk (v := cellPtr _ _) rfl rfl) .nil))) ?_)
  (refine WL.want rfl (WL1.callN rfl rfl rfl (.cons (.mk (v := .int _ _) rfl rfl) (.cons (.mk (v := .func _ _ _) rfl rfl) .nil)) (fun w hw => numbers_n _ [cellPtr (some ⟨b3, 0, none⟩) 0, cellPtr (some ⟨b4, 0, none⟩) 0] (rP bs.length T) bs.length w (pred_recompute hm (cell_pt hw (by repeat (first | exact .head _ | apply List.Mem.tail)) rfl) (cell_pt hw (by repeat (first | exact .head _ | apply List.Mem.tail)) rfl) (hs.below hw.1)) (by omega)) ?_); rintro _ _ ⟨A1, c1, rfl, rfl⟩)
  refine WL.want rfl (WL1.give rfl (g_assign rfl (.mk (v := .slice _ _ _) rfl rfl)) ?_)
  refine WL.nil ?_
  (refine hK _ _ ?_; clear hK)
  (refine WC.seq ?_; intro K hK)
  refine WC.region rfl ?_
  refine WL.want rfl (WL1.give rfl (g_move rfl (.mk (v := .slice _ _ _) rfl rfl)) ?_)
  refine WL.want rfl (WL1.give rfl (g_move rfl (.mk (v := .slice _ _ _) rfl rfl)) ?_)
  refine WL.want rfl (WL1.give rfl (g_move rfl (.mk (v := .slice _ _ _) rfl rfl)) ?_)
  refine WL.want rfl (WL1.callP rfl rfl rfl (.cons (.mk (v := .slice _ _ _) rfl rfl) (.cons (.mk (v := .slice _ _ _) rfl rfl) .nil)) (fun w hw => good_e _ _ (numL (rP bs.length T) bs.length) bs w (Sl.of_vec hw (by repeat (first | exact .head _ | apply List.Mem.tail))) (hsb.below hw.1) hlt) ?_)
  refine WL.want rfl (WL1.give rfl (g_assign rfl (.mk (v := .slice _ _ _) rfl rfl)) ?_)
  refine WL.want rfl (WL1.give rfl (g_assign rfl (.mk (v := .bool _) rfl rfl)) ?_)
  refine WL.nil ?_
  (refine hK _ _ ?_; clear hK)
  refine WC.ret ?_
  exact fun w' hw' => ⟨_, _, rfl, hw'.sub (.cons_cons _ (.cons _ (.cons _ .slnil))), A1, c1, rfl, rfl⟩
/-- The good ones. -/
def gP (bs : List Bool) (i : Nat) : Bool := !nth bs i
theorem ldv_take (l : List Nat) (k : Nat) : (ldv l).take (k * 1) = ldv (l.take k) := by unfold ldv; rw [Nat.mul_one, List.map_take]
set_option maxRecDepth 20000 in
set_option maxHeartbeats 1000000 in
theorem first_n {N : Nat} (hN : bs.length = N + 3) (h1 : 1 ≤ N) (h2 : N ≤ 13) (hg : N ≤ (numL (gP bs) bs.length).length) (hsb : Sl w 1 (.slice B bs.length d) bs.length (bls bs)) :
    Calls Try.prog 63 #[iv bs.length, .slice A T.length c, .slice B bs.length d] w fun e w' => ∃ v' M, e = .returned v' ∧ H w M w' ∧ ∃ A1 c1, v' = .tuple #[.slice A1 N c1, .bool true] ∧ M = [vec A1 N c1 3 1 (ldv ((numL (gP bs) bs.length).take N))] := by
  have hsub : IntKind.i64.wrap ((bs.length : Int) - 3) = (N : Int) := by rw [IntWalk.i64_in _ (by omega)]; omega
  refine calls_wc (args := [iv bs.length, .slice A T.length c, .slice B bs.length d]) [6, 7] [] Try.func63 rfl Try.ntmps63 rfl rfl rfl rfl (H.refl _) ?_
  (refine WC.seq ?_; intro K hK)
  refine WC.region rfl ?_
  refine WL.want rfl (WL1.box rfl rfl (.mk (v := .slice _ _ _) rfl rfl) rfl (fun b5 => ?_))
  refine WL.want rfl (WL1.give rfl (g_assign rfl (.mk (v := .slice _ _ _) rfl rfl)) ?_)
  refine WL.want rfl (WL1.give rfl (g_assign rfl (.mk (v := .bool _) rfl rfl)) ?_)
  refine WL.nil ?_
  (refine hK _ _ ?_; clear hK)
  (refine WC.seq ?_; intro K hK)
  refine WC.region rfl ?_
  refine WL.want rfl (WL1.give rfl (g_move rfl (.mk (v := .int _ _) rfl rfl)) ?_)
  refine WL.want rfl (WL1.give rfl (g_makeFunc rfl (.cons (.mk (v := cellPtr _ _) rfl rfl) .nil)) ?_)
  (refine WL.want rfl (WL1.callN rfl rfl rfl (.cons (.mk (v := .int _ _) rfl rfl) (.cons (.mk (v := .func _ _ _) rfl rfl) .nil)) (fun w hw => numbers_n _ [cellPtr (some ⟨b5, 0, none⟩) 0] (gP bs) bs.length w (pred_first (cell_pt hw (by repeat (first | exact .head _ | apply List.Mem.tail)) rfl) (hsb.below hw.1)) (by omega)) ?_); rintro _ _ ⟨A1, c1, rfl, rfl⟩)
  refine WL.want rfl (WL1.give rfl (g_assign rfl (.mk (v := .slice _ _ _) rfl rfl)) ?_)
  refine WL.nil ?_
  (refine hK _ _ ?_; clear hK)
  (refine WC.seq ?_; intro K hK)
  (refine WC.seq ?_; intro K hK)
  refine WC.region rfl ?_
  refine WL.want rfl (WL1.give rfl (g_move rfl (.mk (v := .slice _ _ _) rfl rfl)) ?_)
  refine WL.want rfl (WL1.give rfl (g_len rfl (.mk rfl rfl) rfl) ?_)
  refine WL.want rfl (WL1.give rfl (g_move rfl (.mk (v := .int _ _) rfl rfl)) ?_)
  refine WL.want rfl (WL1.give rfl (g_sub rfl (.mk rfl rfl) (.mk rfl rfl) hsub) ?_)
  refine WL.want rfl (WL1.give rfl (g_lt rfl (.mk rfl rfl) (.mk rfl rfl) (decide_eq_false (by omega))) ?_)
  refine WL.nil ?_
  (refine hK _ _ ?_; clear hK)
  refine WC.cond_false (.mk rfl rfl) ?_
  refine WC.skip ?_
  (refine hK _ _ ?_; clear hK)
  (refine WC.seq ?_; intro K hK)
  refine WC.region rfl ?_
  refine WL.want rfl (WL1.give rfl (g_move rfl (.mk (v := .slice _ _ _) rfl rfl)) ?_)
  refine WL.want rfl (WL1.give rfl (g_move rfl (.mk (v := .int _ _) rfl rfl)) ?_)
  refine WL.want rfl (WL1.give rfl (g_sub rfl (.mk rfl rfl) (.mk rfl rfl) hsub) ?_)
  refine WL.want rfl (WL1.give rfl (g_sliceC (sz := 1) (kl := .i64) (p := 0) rfl (.mk rfl rfl) rfl rfl rfl ⟨(.mk rfl rfl), rfl⟩ (by omega) (fun w hw => Nat.le_trans (by omega) (vec_cap hw (.head _)))) ?_)
  refine WL.want rfl (WL1.give rfl (g_assign rfl (.mk (v := .slice _ _ _) rfl rfl)) ?_)
  refine WL.want rfl (WL1.give rfl (g_assign rfl (.mk (v := .bool _) rfl rfl)) ?_)
  refine WL.nil ?_
  (refine hK _ _ ?_; clear hK)
  refine WC.ret ?_
  refine fun w' hw' => ?_
  obtain ⟨g, rfl⟩ := vec_at hw' (.head _) (by omega)
  refine ⟨_, [vec (some ⟨g, 0, none⟩) N c1 3 1 (ldv ((numL (gP bs) bs.length).take N))], rfl, ?_, some ⟨g, 0, none⟩, c1, ?_, rfl⟩
  · rw [← ldv_take]
    exact Imp.h (Imp.trans (Imp.prefix_ _ hg) (Imp.cons (Imp.nil _))) hw'
  · show Value.tuple #[.slice (subA (some ⟨g, 0, none⟩) c1 0 1) (N - 0) (c1 - 0), .bool true] = _
    rw [subA_zero]; rfl
end
abbrev metA : Value := .agg [Value.func (.func 49) #[] #[], Value.func (.func 50) #[] #[], Value.func (.func 63) #[] #[]].toArray
set_option maxRecDepth 20000 in
set_option maxHeartbeats 1000000 in
theorem methods_e (w : World) : Calls Try.prog 46 #[] w fun e w' => e = .returned metA ∧ Below w.heap.size w w' := by
  refine calls_wcG (args := []) [.cell 0 82] [] Try.func46 rfl Try.ntmps46 rfl rfl (H.refl _) ?_
  (refine WC.seq ?_; intro K hK)
  refine WC.region rfl ?_
  refine WL.want rfl (WL1.alloc rfl rfl rfl rfl (fun b0 => ?_))
  refine WL.nil ?_
  (refine hK _ _ ?_; clear hK)
  (refine WC.seq ?_; intro K hK)
  refine WC.region rfl ?_
  refine WL.want rfl (WL1.give rfl (g_build (cs := [_]) rfl rfl rfl rfl (.cons (.mk (v := .func _ _ _) rfl rfl) .nil) rfl rfl rfl) ?_)
  refine WL.want rfl (WL1.give rfl (g_build (cs := [_]) rfl rfl rfl rfl (.cons (.mk (v := .func _ _ _) rfl rfl) .nil) rfl rfl rfl) ?_)
  refine WL.want rfl (WL1.give rfl (g_build (cs := [_]) rfl rfl rfl rfl (.cons (.mk (v := .func _ _ _) rfl rfl) .nil) rfl rfl rfl) ?_)
  refine WL.want rfl (WL1.give rfl (g_buildArrS (sz := 1) (us := [(0, [_]), (1, [_]), (2, [_])]) (cs := [_, _, _]) rfl rfl rfl rfl rfl (.cons (.mk (v := .agg _) rfl rfl) (.cons (.mk (v := .agg _) rfl rfl) (.cons (.mk (v := .agg _) rfl rfl) .nil))) rfl (fun p hp => by simp only [List.mem_cons, List.not_mem_nil, or_false] at hp; rcases hp with rfl | rfl | rfl <;> exact ⟨rfl, by decide⟩) rfl) ?_)
  refine WL.want rfl (WL1.storeAll rfl rfl (.mk rfl rfl) (.mk rfl rfl) rfl (all1 rfl) (by first | rfl | (simp [Blk.len]; done)) (.head) ?_)
  refine WL.nil ?_
  (refine hK _ _ ?_; clear hK)
  refine WC.ret ?_
  exact ⟨_, .cell rfl rfl rfl rfl (.head _) .nil, fun w' hw' => ⟨rfl, hw'.1⟩⟩
end Go.Proofs.Ytnkbnponpknokaa
namespace Go.Proofs.Ytnkbnponpknokaa
open Go.RowKit
attribute [local irreducible] Calls
/-- A method's pieces, if it is possible and they are fewer. -/
def upB (o : Option (List Nat)) (l : List Nat) (ok : Bool) : Option (List Nat) := if ok && (o.isNone || decide (l.length < (o.getD []).length)) then some l else o
def o1 (T : List Int) (bs : List Bool) : Option (List Nat) := upB none (numL (dP bs.length T) bs.length) (goodL (numL (dP bs.length T) bs.length) bs)
def o2 (T : List Int) (bs : List Bool) : Option (List Nat) := upB (o1 T bs) (numL (rP bs.length T) bs.length) (goodL (numL (rP bs.length T) bs.length) bs)
def o3 (N : Nat) (T : List Int) (bs : List Bool) : Option (List Nat) := upB (o2 T bs) ((numL (gP bs) bs.length).take N) true
def oS (N : Nat) (T : List Int) (bs : List Bool) : Nat → Option (List Nat)
  | 0 => none
  | 1 => o1 T bs
  | 2 => o2 T bs
  | _ => o3 N T bs
/-- The touched pieces are data pieces, in increasing order. -/
def okT (m : Int) (T : List Int) (i : Nat) : Prop := 0 ≤ nth T i ∧ nth T i < m - 3 ∧ (i = 0 ∨ nth T (i - 1) < nth T i)
set_option maxRecDepth 20000 in
set_option maxHeartbeats 4000000 in
theorem reads_n {w : World} {A B : Option Addr} {c d N : Nat} {T : List Int} {bs : List Bool} (hN : bs.length = N + 3) (h1 : 1 ≤ N) (h2 : N ≤ 13) (hs : Sl w 1 (.slice A T.length c) T.length (ivs T)) (hsb : Sl w 1 (.slice B bs.length d) bs.length (bls bs)) (hT : ∀ i, i < T.length → okT bs.length T i) (h0 : 0 < T.length) (hT2 : T.length ≤ 1000000)
    (hb3 : (numL (fun i => nth bs i) bs.length).length ≤ 3) (hg : N ≤ (numL (gP bs) bs.length).length) :
    Calls Try.prog 20 #[iv bs.length, .slice A T.length c, .slice B bs.length d] w fun e w' => ∃ v' M, e = .returned v' ∧ H w M w' ∧ ∃ A1 c1, v' = .tuple #[.slice A1 ((oS N T bs 3).getD []).length c1, iv 0] ∧ M = [vec A1 ((oS N T bs 3).getD []).length c1 3 1 (ldv ((oS N T bs 3).getD []))] := by
  have hsub : IntKind.i64.wrap ((bs.length : Int) - 3) = (bs.length : Int) - 3 := IntWalk.i64_in _ (by omega)
  have hval : ∀ w', Calls Try.prog 41 #[iv bs.length] w' fun e w2 => e = .returned (.bool true) ∧ Below w'.heap.size w' w2 := fun w' => by
    have := valid_i bs.length w'
    rwa [decide_eq_true (by omega)] at this
  refine calls_wc (args := [iv bs.length, .slice A T.length c, .slice B bs.length d]) [6, 7] [] Try.func20 rfl Try.ntmps20 rfl rfl rfl rfl (H.refl _) ?_
  (refine WC.seq ?_; intro K hK)
  refine WC.region rfl ?_
  refine WL.want rfl (WL1.box rfl rfl (.mk (v := .slice _ _ _) rfl rfl) rfl (fun b5 => ?_))
  refine WL.want rfl (WL1.give rfl (g_assign rfl (.mk (v := .slice _ _ _) rfl rfl)) ?_)
  refine WL.want rfl (WL1.give rfl (g_assign rfl (.mk (v := .int _ _) rfl rfl)) ?_)
  refine WL.nil ?_
  (refine hK _ _ ?_; clear hK)
  (refine WC.seq ?_; intro K hK)
  (refine WC.seq ?_; intro K hK)
  refine WC.region rfl ?_
  refine WL.want rfl (WL1.give rfl (g_move rfl (.mk (v := .int _ _) rfl rfl)) ?_)
  refine WL.want rfl (WL1.callP rfl rfl rfl (.cons (.mk (v := .int _ _) rfl rfl) .nil) (fun w hw => hval w) ?_)
  refine WL.want rfl (WL1.give rfl (g_notT rfl (.mk rfl rfl)) ?_)
  refine WL.want rfl (WL1.give rfl (g_move rfl (.mk (v := .bool _) rfl rfl)) ?_)
  refine WL.wantG rfl rfl rfl rfl (WL1.give rfl (g_load rfl (.mk rfl rfl) rfl (rd_pt (by repeat (first | exact .head _ | apply List.Mem.tail)) rfl)) ?_)
  refine WL.wantG rfl rfl rfl rfl (WL1.give rfl (g_len rfl (.mk rfl rfl) rfl) ?_)
  refine WL.wantG rfl rfl rfl rfl (WL1.give rfl (g_move rfl (.mk (v := .int _ _) rfl rfl)) ?_)
  refine WL.wantG rfl rfl rfl rfl (WL1.give rfl (g_ne rfl (.mk rfl rfl) (.mk rfl rfl) (decide_eq_false (by omega))) ?_)
  refine WL.want rfl (WL1.give rfl (g_pickF rfl (.mk rfl rfl) (.mk (v := .bool _) rfl rfl)) ?_)
  refine WL.nil ?_
  (refine hK _ _ ?_; clear hK)
  refine WC.cond_false (.mk rfl rfl) ?_
  refine WC.skip ?_
  (refine hK _ _ ?_; clear hK)
  (refine WC.seq ?_; intro K hK)
  (refine WC.seq ?_; intro K hK)
  refine WC.region rfl ?_
  refine WL.want rfl (WL1.give rfl (g_move rfl (.mk (v := .slice _ _ _) rfl rfl)) ?_)
  refine WL.want rfl (WL1.give rfl (g_len rfl (.mk rfl rfl) rfl) ?_)
  refine WL.want rfl (WL1.give rfl (g_move rfl (.mk (v := .int _ _) rfl rfl)) ?_)
  refine WL.nil ?_
  (refine hK _ _ ?_; clear hK)
  refine WC.block ?_
  refine WC.loopF (fun i : Nat => [(27, iv i), (26, iv T.length), (25, .slice A T.length c), (0, iv bs.length), (1, .slice A T.length c), (5, cellPtr (some ⟨b5, 0, none⟩) 0)]) (fun _ => [pt b5 41 [.slice B bs.length d]]) (fun i => i ≤ T.length) (fun i => T.length - i) 0 (by repeat (first | exact trivial | refine ⟨rfl, ?_⟩)) (.refl _) (by omega) ?_
  intro i U hi
  by_cases hlt : i < T.length
  · have hgv := ivs_get (l := T) (k := i) hlt
    obtain ⟨q1, q2, q3⟩ := hT i hlt
    by_cases hi0 : i = 0
    · subst hi0
      (refine WC.seq ?_; intro K hK)
      refine WC.region rfl ?_
      refine WL.want rfl (WL1.give rfl (g_lt rfl (.mk rfl rfl) (.mk rfl rfl) (decide_eq_true (by omega))) ?_)
      refine WL.nil ?_
      (refine hK _ _ ?_; clear hK)
      (refine WC.seq ?_; intro K hK)
      refine WC.cond_true (.mk rfl rfl) ?_
      refine WC.skip ?_
      (refine hK _ _ ?_; clear hK)
      (refine WC.seq ?_; intro K hK)
      refine WC.block ?_
      (refine WC.seq ?_; intro K hK)
      refine WC.region rfl ?_
      refine WL.want rfl (WL1.give rfl (g_move rfl (.mk (v := .int _ _) rfl rfl)) ?_)
      refine WL.want rfl (WL1.give rfl (g_indexAddr (sz := 1) rfl (.mk rfl rfl) (.mk rfl rfl) rfl rfl (show _ = ((0 : Nat) : Int) from rfl) (by omega) (fun _ _ => sl_some hs (by omega))) ?_)
      refine WL.want rfl (WL1.give rfl (g_load rfl (.mk rfl rfl) rfl (rd_sl hs hgv)) ?_)
      refine WL.want rfl (WL1.give rfl (g_assign rfl (.mk (v := .int _ _) rfl rfl)) ?_)
      refine WL.want rfl (WL1.give rfl (g_assign rfl (.mk (v := .int _ _) rfl rfl)) ?_)
      refine WL.nil ?_
      (refine hK _ _ ?_; clear hK)
      (refine WC.seq ?_; intro K hK)
      refine WC.region rfl ?_
      refine WL.want rfl (WL1.give rfl (g_move rfl (.mk (v := .int _ _) rfl rfl)) ?_)
      refine WL.want rfl (WL1.give rfl (g_lt rfl (.mk rfl rfl) (.mk rfl rfl) (decide_eq_false (by omega))) ?_)
      refine WL.want rfl (WL1.give rfl (g_move rfl (.mk (v := .bool _) rfl rfl)) ?_)
      refine WL.wantG rfl rfl rfl rfl (WL1.give rfl (g_move rfl (.mk (v := .int _ _) rfl rfl)) ?_)
      refine WL.wantG rfl rfl rfl rfl (WL1.give rfl (g_move rfl (.mk (v := .int _ _) rfl rfl)) ?_)
      refine WL.wantG rfl rfl rfl rfl (WL1.give rfl (g_sub rfl (.mk rfl rfl) (.mk rfl rfl) hsub) ?_)
      refine WL.wantG rfl rfl rfl rfl (WL1.give rfl (g_ge rfl (.mk rfl rfl) (.mk rfl rfl) (decide_eq_false (by omega))) ?_)
      refine WL.want rfl (WL1.give rfl (g_pickF rfl (.mk rfl rfl) (.mk (v := .bool _) rfl rfl)) ?_)
      refine WL.want rfl (WL1.give rfl (g_move rfl (.mk (v := .bool _) rfl rfl)) ?_)
      refine WL.wantG rfl rfl rfl rfl (WL1.give rfl (g_move rfl (.mk (v := .int _ _) rfl rfl)) ?_)
      refine WL.wantG rfl rfl rfl rfl (WL1.give rfl (g_gt rfl (.mk rfl rfl) (.mk rfl rfl) (decide_eq_false (by omega))) ?_)
      refine WL.wantG rfl rfl rfl rfl (WL1.give rfl (g_move rfl (.mk (v := .bool _) rfl rfl)) ?_)
      refine WL.skipG rfl rfl rfl rfl rfl rfl ?_
      refine WL.skipG rfl rfl rfl rfl rfl rfl ?_
      refine WL.skipG rfl rfl rfl rfl rfl rfl ?_
      refine WL.skipG rfl rfl rfl rfl rfl rfl ?_
      refine WL.skipG rfl rfl rfl rfl rfl rfl ?_
      refine WL.skipG rfl rfl rfl rfl rfl rfl ?_
      refine WL.skipG rfl rfl rfl rfl rfl rfl ?_
      refine WL.wantG rfl rfl rfl rfl (WL1.give rfl (g_pickF rfl (.mk rfl rfl) (.mk (v := .bool _) rfl rfl)) ?_)
      refine WL.want rfl (WL1.give rfl (g_pickF rfl (.mk rfl rfl) (.mk (v := .bool _) rfl rfl)) ?_)
      refine WL.nil ?_
      (refine hK _ _ ?_; clear hK)
      refine WC.cond_false (.mk rfl rfl) ?_
      refine WC.skip ?_
      (refine hK _ _ ?_; clear hK)
      refine WC.region rfl ?_
      refine WL.want rfl (WL1.give rfl (g_add rfl (.mk rfl rfl) (.mk rfl rfl) (IntWalk.i64_in _ (by omega))) ?_)
      refine WL.want rfl (WL1.give rfl (g_move rfl (.mk (v := .int _ _) rfl rfl)) ?_)
      refine WL.nil ?_
      exact ⟨0 + 1, (by repeat (first | exact trivial | refine ⟨rfl, ?_⟩)), .refl _, by omega, by omega⟩
    · have hsb1 : IntKind.i64.wrap ((i : Int) - 1) = ((i - 1 : Nat) : Int) := by rw [IntWalk.i64_in _ (by omega)]; omega
      have hgv2 := ivs_get (l := T) (k := i - 1) (by omega)
      have q4 := q3.resolve_left hi0
      (refine WC.seq ?_; intro K hK)
      refine WC.region rfl ?_
      refine WL.want rfl (WL1.give rfl (g_lt rfl (.mk rfl rfl) (.mk rfl rfl) (decide_eq_true (by omega))) ?_)
      refine WL.nil ?_
      (refine hK _ _ ?_; clear hK)
      (refine WC.seq ?_; intro K hK)
      refine WC.cond_true (.mk rfl rfl) ?_
      refine WC.skip ?_
      (refine hK _ _ ?_; clear hK)
      (refine WC.seq ?_; intro K hK)
      refine WC.block ?_
      (refine WC.seq ?_; intro K hK)
      refine WC.region rfl ?_
      refine WL.want rfl (WL1.give rfl (g_move rfl (.mk (v := .int _ _) rfl rfl)) ?_)
      refine WL.want rfl (WL1.give rfl (g_indexAddr (sz := 1) rfl (.mk rfl rfl) (.mk rfl rfl) rfl rfl rfl (by omega) (fun _ _ => sl_some hs (by omega))) ?_)
      refine WL.want rfl (WL1.give rfl (g_load rfl (.mk rfl rfl) rfl (rd_sl hs hgv)) ?_)
      refine WL.want rfl (WL1.give rfl (g_assign rfl (.mk (v := .int _ _) rfl rfl)) ?_)
      refine WL.want rfl (WL1.give rfl (g_assign rfl (.mk (v := .int _ _) rfl rfl)) ?_)
      refine WL.nil ?_
      (refine hK _ _ ?_; clear hK)
      (refine WC.seq ?_; intro K hK)
      refine WC.region rfl ?_
      refine WL.want rfl (WL1.give rfl (g_move rfl (.mk (v := .int _ _) rfl rfl)) ?_)
      refine WL.want rfl (WL1.give rfl (g_lt rfl (.mk rfl rfl) (.mk rfl rfl) (decide_eq_false (by omega))) ?_)
      refine WL.want rfl (WL1.give rfl (g_move rfl (.mk (v := .bool _) rfl rfl)) ?_)
      refine WL.wantG rfl rfl rfl rfl (WL1.give rfl (g_move rfl (.mk (v := .int _ _) rfl rfl)) ?_)
      refine WL.wantG rfl rfl rfl rfl (WL1.give rfl (g_move rfl (.mk (v := .int _ _) rfl rfl)) ?_)
      refine WL.wantG rfl rfl rfl rfl (WL1.give rfl (g_sub rfl (.mk rfl rfl) (.mk rfl rfl) hsub) ?_)
      refine WL.wantG rfl rfl rfl rfl (WL1.give rfl (g_ge rfl (.mk rfl rfl) (.mk rfl rfl) (decide_eq_false (by omega))) ?_)
      refine WL.want rfl (WL1.give rfl (g_pickF rfl (.mk rfl rfl) (.mk (v := .bool _) rfl rfl)) ?_)
      refine WL.want rfl (WL1.give rfl (g_move rfl (.mk (v := .bool _) rfl rfl)) ?_)
      refine WL.wantG rfl rfl rfl rfl (WL1.give rfl (g_move rfl (.mk (v := .int _ _) rfl rfl)) ?_)
      refine WL.wantG rfl rfl rfl rfl (WL1.give rfl (g_gt rfl (.mk rfl rfl) (.mk rfl rfl) (decide_eq_true (by omega))) ?_)
      refine WL.wantG rfl rfl rfl rfl (WL1.give rfl (g_move rfl (.mk (v := .bool _) rfl rfl)) ?_)
      refine WL.wantG rfl rfl rfl rfl (WL1.give rfl (g_move rfl (.mk (v := .int _ _) rfl rfl)) ?_)
      refine WL.wantG rfl rfl rfl rfl (WL1.give rfl (g_move rfl (.mk (v := .slice _ _ _) rfl rfl)) ?_)
      refine WL.wantG rfl rfl rfl rfl (WL1.give rfl (g_move rfl (.mk (v := .int _ _) rfl rfl)) ?_)
      refine WL.wantG rfl rfl rfl rfl (WL1.give rfl (g_sub rfl (.mk rfl rfl) (.mk rfl rfl) hsb1) ?_)
      refine WL.wantG rfl rfl rfl rfl (WL1.give rfl (g_indexAddr (sz := 1) rfl (.mk rfl rfl) (.mk rfl rfl) rfl rfl rfl (by omega) (fun _ _ => sl_some hs (by omega))) ?_)
      refine WL.wantG rfl rfl rfl rfl (WL1.give rfl (g_load rfl (.mk rfl rfl) rfl (rd_sl hs hgv2)) ?_)
      refine WL.wantG rfl rfl rfl rfl (WL1.give rfl (g_le rfl (.mk rfl rfl) (.mk rfl rfl) (decide_eq_false (by omega))) ?_)
      refine WL.wantG rfl rfl rfl rfl (WL1.give rfl (g_pickT rfl (.mk rfl rfl) (.mk (v := .bool _) rfl rfl)) ?_)
      refine WL.want rfl (WL1.give rfl (g_pickF rfl (.mk rfl rfl) (.mk (v := .bool _) rfl rfl)) ?_)
      refine WL.nil ?_
      (refine hK _ _ ?_; clear hK)
      refine WC.cond_false (.mk rfl rfl) ?_
      refine WC.skip ?_
      (refine hK _ _ ?_; clear hK)
      refine WC.region rfl ?_
      refine WL.want rfl (WL1.give rfl (g_add rfl (.mk rfl rfl) (.mk rfl rfl) (IntWalk.i64_in _ (by omega))) ?_)
      refine WL.want rfl (WL1.give rfl (g_move rfl (.mk (v := .int _ _) rfl rfl)) ?_)
      refine WL.nil ?_
      exact ⟨i + 1, (by repeat (first | exact trivial | refine ⟨rfl, ?_⟩)), .refl _, by omega, by omega⟩
  · obtain rfl : i = T.length := by omega
    (refine WC.seq ?_; intro K hK)
    refine WC.region rfl ?_
    refine WL.want rfl (WL1.give rfl (g_lt rfl (.mk rfl rfl) (.mk rfl rfl) (decide_eq_false (by omega))) ?_)
    refine WL.nil ?_
    (refine hK _ _ ?_; clear hK)
    (refine WC.seq ?_; intro K hK)
    refine WC.cond_false (.mk rfl rfl) ?_
    refine WC.exit ?_
    (clear hK; refine hK _ _ ?_; clear hK)
    (refine WC.seq ?_; intro K hK)
    (refine WC.seq ?_; intro K hK)
    refine WC.region rfl ?_
    refine WL.want rfl (WL1.give rfl (g_move rfl (.mk (v := .int _ _) rfl rfl)) ?_)
    refine WL.want rfl (WL1.give rfl (g_makeFunc rfl (.cons (.mk (v := cellPtr _ _) rfl rfl) .nil)) ?_)
    (refine WL.want rfl (WL1.callN rfl rfl rfl (.cons (.mk (v := .int _ _) rfl rfl) (.cons (.mk (v := .func _ _ _) rfl rfl) .nil)) (fun w hw => numbers_n _ [cellPtr (some ⟨b5, 0, none⟩) 0] (fun i => nth bs i) bs.length w (pred_reads (cell_pt hw (by repeat (first | exact .head _ | apply List.Mem.tail)) rfl) (hsb.below hw.1)) (by omega)) ?_); rintro _ _ ⟨Ab, cb, rfl, rfl⟩)
    refine WL.want rfl (WL1.give rfl (g_len rfl (.mk rfl rfl) rfl) ?_)
    refine WL.want rfl (WL1.give rfl (g_gt rfl (.mk rfl rfl) (.mk rfl rfl) (decide_eq_false (by omega))) ?_)
    refine WL.nil ?_
    (refine hK _ _ ?_; clear hK)
    refine WC.cond_false (.mk rfl rfl) ?_
    refine WC.skip ?_
    (refine hK _ _ ?_; clear hK)
    (refine WC.seq ?_; intro K hK)
    (refine WC.seq ?_; intro K hK)
    refine WC.region rfl ?_
    refine WL.want rfl (WL1.give rfl (g_move rfl (.mk (v := .slice _ _ _) rfl rfl)) ?_)
    refine WL.want rfl (WL1.give rfl (g_len rfl (.mk rfl rfl) rfl) ?_)
    refine WL.want rfl (WL1.give rfl (g_eq rfl (.mk rfl rfl) (.mk rfl rfl) (decide_eq_false (by omega))) ?_)
    refine WL.nil ?_
    (refine hK _ _ ?_; clear hK)
    refine WC.cond_false (.mk rfl rfl) ?_
    refine WC.skip ?_
    (refine hK _ _ ?_; clear hK)
    (refine WC.seq ?_; intro K hK)
    refine WC.region rfl ?_
    refine WL.want rfl (WL1.give rfl (g_assign rfl (.mk (v := .slice _ _ _) rfl rfl)) ?_)
    refine WL.nil ?_
    (refine hK _ _ ?_; clear hK)
    (refine WC.seq ?_; intro K hK)
    refine WC.region rfl ?_
    refine WL.want rfl (WL1.give rfl (g_assign rfl (.mk (v := .bool _) rfl rfl)) ?_)
    refine WL.nil ?_
    (refine hK _ _ ?_; clear hK)
    (refine WC.seq ?_; intro K hK)
    (refine WC.seq ?_; intro K hK)
    refine WC.region rfl ?_
    refine WL.want rfl (WL1.callP rfl rfl rfl .nil (fun w hw => methods_e w) ?_)
    refine WL.want rfl (WL1.give rfl (g_move rfl (.mk (v := .int _ _) rfl rfl)) ?_)
    refine WL.nil ?_
    (refine hK _ _ ?_; clear hK)
    refine WC.block ?_
    refine WC.nilvec 3 1 ?_
    refine WC.loopF4 (fun (i : Nat) (o : Option (List Nat)) (A1 : Option Addr) (c1 : Nat) => [(63, iv i), (62, metA), (10, .slice A1 (o.getD []).length c1), (11, .bool o.isSome), (0, iv bs.length), (1, .slice A T.length c), (5, cellPtr (some ⟨b5, 0, none⟩) 0)]) (fun _ o A1 c1 => [vec A1 (o.getD []).length c1 3 1 (ldv (o.getD [])), pt b5 41 [.slice B bs.length d]]) (fun i o _ _ => i ≤ 3 ∧ o = oS N T bs i) (fun i _ _ _ => 3 - i) 0 none none 0 (by repeat (first | exact trivial | refine ⟨rfl, ?_⟩)) (Imp.pick (A := vec none 0 0 3 1 []) (by repeat (first | exact .head | apply Take.tail)) (Imp.pick (by repeat (first | exact .head | apply Take.tail)) (Imp.nil _))) ⟨by omega, rfl⟩ ?_
    rintro i o A1 c1 U2 ⟨hi, ho⟩
    by_cases hlt2 : i < 3
    · obtain ⟨f, l, ok, hf, hok, hcl, hnx⟩ : ∃ (f : FuncId) (l : List Nat) (ok : Bool), (([Value.func (.func 49) #[] #[], Value.func (.func 50) #[] #[], Value.func (.func 63) #[] #[]].drop (i * 1)).take 1 = [Value.func (.func f) #[] #[]]) ∧ callable Try.prog f = true ∧ (∀ w', Below w.heap.size w w' → Calls Try.prog f #[iv bs.length, .slice A T.length c, .slice B bs.length d] w' fun e w2 => ∃ v' M, e = .returned v' ∧ H w' M w2 ∧ ∃ A1 c1, v' = .tuple #[.slice A1 l.length c1, .bool ok] ∧ M = [vec A1 l.length c1 3 1 (ldv l)]) ∧ oS N T bs (i + 1) = upB (oS N T bs i) l ok := by
        rcases (by omega : i = 0 ∨ i = 1 ∨ i = 2) with rfl | rfl | rfl
        · exact ⟨_, _, _, rfl, by kernel_rfl, fun w' hb => delta_n (by omega) (hs.below hb) (hsb.below hb), rfl⟩
        · exact ⟨_, _, _, rfl, by kernel_rfl, fun w' hb => recompute_n (by omega) (hs.below hb) (hsb.below hb), rfl⟩
        · refine ⟨_, (numL (gP bs) bs.length).take N, _, rfl, by kernel_rfl, fun w' hb => ?_, rfl⟩
          have htl : ((numL (gP bs) bs.length).take N).length = N := by rw [List.length_take]; omega
          rw [htl]
          exact first_n hN h1 h2 hg (hsb.below hb)
      rw [← ho] at hnx
      clear ho hT hs hsb hb3 hg hsub hval
      cases ok with
      | false =>
        have hst : oS N T bs (i + 1) = o := hnx
        (refine WC.seq ?_; intro K hK)
        refine WC.region rfl ?_
        refine WL.want rfl (WL1.give rfl (g_lt rfl (.mk rfl rfl) (.mk rfl rfl) (decide_eq_true (by omega))) ?_)
        refine WL.nil ?_
        (refine hK _ _ ?_; clear hK)
        (refine WC.seq ?_; intro K hK)
        refine WC.cond_true (.mk rfl rfl) ?_
        refine WC.skip ?_
        (refine hK _ _ ?_; clear hK)
        (refine WC.seq ?_; intro K hK)
        refine WC.block ?_
        (refine WC.seq ?_; intro K hK)
        refine WC.region rfl ?_
        refine WL.want rfl (WL1.give rfl (g_indexG (sz := 1) rfl (.mk rfl rfl) (.mk rfl rfl) rfl rfl rfl rfl hlt2 (by show i * 1 + 1 ≤ 3; omega) hf) ?_)
        refine WL.want rfl (WL1.alloc rfl rfl rfl rfl (fun b13 => ?_))
        refine WL.want rfl (WL1.storeAll rfl rfl (.mk rfl rfl) (.mk rfl rfl) rfl (all1 rfl) (by first | rfl | (simp [Blk.len]; done)) (.head) ?_)
        refine WL.nil ?_
        (refine hK _ _ ?_; clear hK)
        (refine WC.seq ?_; intro K hK)
        refine WC.region rfl ?_
        refine WL.want rfl (WL1.give rfl (g_fieldAddr (off := 0) rfl (.mk rfl rfl) rfl (fun _ _ => rfl)) ?_)
        refine WL.want rfl (WL1.give rfl (g_load rfl (.mk rfl rfl) rfl (rd_pt (by repeat (first | exact .head _ | apply List.Mem.tail)) rfl)) ?_)
        refine WL.want rfl (WL1.give rfl (g_move rfl (.mk (v := .int _ _) rfl rfl)) ?_)
        refine WL.want rfl (WL1.give rfl (g_move rfl (.mk (v := .slice _ _ _) rfl rfl)) ?_)
        refine WL.want rfl (WL1.give rfl (g_load rfl (.mk rfl rfl) rfl (rd_pt (by repeat (first | exact .head _ | apply List.Mem.tail)) rfl)) ?_)
        (refine WL.want rfl (WL1.callVN rfl rfl (.mk rfl rfl) (by first | assumption | rfl | kernel_rfl) (.cons (.mk (v := .int _ _) rfl rfl) (.cons (.mk (v := .slice _ _ _) rfl rfl) (.cons (.mk (v := .slice _ _ _) rfl rfl) .nil))) (fun w hw => hcl w hw.1) ?_); rintro _ _ ⟨A2, c2, rfl, rfl⟩)
        refine WL.want rfl (WL1.give rfl (g_move rfl (.mk (v := .tuple _) rfl rfl)) ?_)
        refine WL.want rfl (WL1.give rfl (g_extract rfl (.mk rfl rfl) rfl) ?_)
        refine WL.want rfl (WL1.give rfl (g_extract rfl (.mk rfl rfl) rfl) ?_)
        refine WL.want rfl (WL1.give rfl (g_assign rfl (.mk (v := .slice _ _ _) rfl rfl)) ?_)
        refine WL.want rfl (WL1.give rfl (g_assign rfl (.mk (v := .bool _) rfl rfl)) ?_)
        refine WL.nil ?_
        (refine hK _ _ ?_; clear hK)
        (refine WC.seq ?_; intro K hK)
        refine WC.region rfl ?_
        refine WL.want rfl (WL1.give rfl (g_move rfl (.mk (v := .bool _) rfl rfl)) ?_)
        refine WL.want rfl (WL1.give rfl (g_move rfl (.mk (v := .bool _) rfl rfl)) ?_)
        refine WL.skipG rfl rfl rfl rfl rfl rfl ?_
        refine WL.skipG rfl rfl rfl rfl rfl rfl ?_
        refine WL.skipG rfl rfl rfl rfl rfl rfl ?_
        refine WL.skipU rfl rfl rfl rfl rfl ?_
        refine WL.skipU rfl rfl rfl rfl rfl ?_
        refine WL.skipU rfl rfl rfl rfl rfl ?_
        refine WL.skipU rfl rfl rfl rfl rfl ?_
        refine WL.skipU rfl rfl rfl rfl rfl ?_
        refine WL.skipG rfl rfl rfl rfl rfl rfl ?_
        refine WL.want rfl (WL1.give rfl (g_pickF rfl (.mk rfl rfl) (.mk (v := .bool _) rfl rfl)) ?_)
        refine WL.nil ?_
        (refine hK _ _ ?_; clear hK)
        refine WC.cond_false (.mk rfl rfl) ?_
        refine WC.skip ?_
        (refine hK _ _ ?_; clear hK)
        refine WC.region rfl ?_
        refine WL.want rfl (WL1.give rfl (g_add rfl (.mk rfl rfl) (.mk rfl rfl) (IntWalk.i64_in _ (by omega))) ?_)
        refine WL.want rfl (WL1.give rfl (g_move rfl (.mk (v := .int _ _) rfl rfl)) ?_)
        refine WL.nil ?_
        exact ⟨i + 1, o, A1, c1, (by repeat (first | exact trivial | refine ⟨rfl, ?_⟩)), Imp.pick (by repeat (first | exact .head | apply Take.tail)) (Imp.pick (by repeat (first | exact .head | apply Take.tail)) (Imp.nil _)), ⟨by omega, hst.symm⟩, by omega⟩
      | true =>
        cases o with
        | none =>
          have hst : oS N T bs (i + 1) = some l := hnx
          (refine WC.seq ?_; intro K hK)
          refine WC.region rfl ?_
          refine WL.want rfl (WL1.give rfl (g_lt rfl (.mk rfl rfl) (.mk rfl rfl) (decide_eq_true (by omega))) ?_)
          refine WL.nil ?_
          (refine hK _ _ ?_; clear hK)
          (refine WC.seq ?_; intro K hK)
          refine WC.cond_true (.mk rfl rfl) ?_
          refine WC.skip ?_
          (refine hK _ _ ?_; clear hK)
          (refine WC.seq ?_; intro K hK)
          refine WC.block ?_
          (refine WC.seq ?_; intro K hK)
          refine WC.region rfl ?_
          refine WL.want rfl (WL1.give rfl (g_indexG (sz := 1) rfl (.mk rfl rfl) (.mk rfl rfl) rfl rfl rfl rfl hlt2 (by show i * 1 + 1 ≤ 3; omega) hf) ?_)
          refine WL.want rfl (WL1.alloc rfl rfl rfl rfl (fun b13 => ?_))
          refine WL.want rfl (WL1.storeAll rfl rfl (.mk rfl rfl) (.mk rfl rfl) rfl (all1 rfl) (by first | rfl | (simp [Blk.len]; done)) (.head) ?_)
          refine WL.nil ?_
          (refine hK _ _ ?_; clear hK)
          (refine WC.seq ?_; intro K hK)
          refine WC.region rfl ?_
          refine WL.want rfl (WL1.give rfl (g_fieldAddr (off := 0) rfl (.mk rfl rfl) rfl (fun _ _ => rfl)) ?_)
          refine WL.want rfl (WL1.give rfl (g_load rfl (.mk rfl rfl) rfl (rd_pt (by repeat (first | exact .head _ | apply List.Mem.tail)) rfl)) ?_)
          refine WL.want rfl (WL1.give rfl (g_move rfl (.mk (v := .int _ _) rfl rfl)) ?_)
          refine WL.want rfl (WL1.give rfl (g_move rfl (.mk (v := .slice _ _ _) rfl rfl)) ?_)
          refine WL.want rfl (WL1.give rfl (g_load rfl (.mk rfl rfl) rfl (rd_pt (by repeat (first | exact .head _ | apply List.Mem.tail)) rfl)) ?_)
          (refine WL.want rfl (WL1.callVN rfl rfl (.mk rfl rfl) (by first | assumption | rfl | kernel_rfl) (.cons (.mk (v := .int _ _) rfl rfl) (.cons (.mk (v := .slice _ _ _) rfl rfl) (.cons (.mk (v := .slice _ _ _) rfl rfl) .nil))) (fun w hw => hcl w hw.1) ?_); rintro _ _ ⟨A2, c2, rfl, rfl⟩)
          refine WL.want rfl (WL1.give rfl (g_move rfl (.mk (v := .tuple _) rfl rfl)) ?_)
          refine WL.want rfl (WL1.give rfl (g_extract rfl (.mk rfl rfl) rfl) ?_)
          refine WL.want rfl (WL1.give rfl (g_extract rfl (.mk rfl rfl) rfl) ?_)
          refine WL.want rfl (WL1.give rfl (g_assign rfl (.mk (v := .slice _ _ _) rfl rfl)) ?_)
          refine WL.want rfl (WL1.give rfl (g_assign rfl (.mk (v := .bool _) rfl rfl)) ?_)
          refine WL.nil ?_
          (refine hK _ _ ?_; clear hK)
          (refine WC.seq ?_; intro K hK)
          refine WC.region rfl ?_
          refine WL.want rfl (WL1.give rfl (g_move rfl (.mk (v := .bool _) rfl rfl)) ?_)
          refine WL.want rfl (WL1.give rfl (g_move rfl (.mk (v := .bool _) rfl rfl)) ?_)
          refine WL.wantG rfl rfl rfl rfl (WL1.give rfl (g_move rfl (.mk (v := .bool _) rfl rfl)) ?_)
          refine WL.wantG rfl rfl rfl rfl (WL1.give rfl (g_notF rfl (.mk rfl rfl)) ?_)
          refine WL.wantG rfl rfl rfl rfl (WL1.give rfl (g_move rfl (.mk (v := .bool _) rfl rfl)) ?_)
          refine WL.skipG rfl rfl rfl rfl rfl rfl ?_
          refine WL.skipG rfl rfl rfl rfl rfl rfl ?_
          refine WL.skipG rfl rfl rfl rfl rfl rfl ?_
          refine WL.skipG rfl rfl rfl rfl rfl rfl ?_
          refine WL.skipG rfl rfl rfl rfl rfl rfl ?_
          refine WL.wantG rfl rfl rfl rfl (WL1.give rfl (g_pickT rfl (.mk rfl rfl) (.mk (v := .bool _) rfl rfl)) ?_)
          refine WL.want rfl (WL1.give rfl (g_pickT rfl (.mk rfl rfl) (.mk (v := .bool _) rfl rfl)) ?_)
          refine WL.nil ?_
          (refine hK _ _ ?_; clear hK)
          refine WC.cond_true (.mk rfl rfl) ?_
          refine WC.region rfl ?_
          refine WL.want rfl (WL1.give rfl (g_move rfl (.mk (v := .slice _ _ _) rfl rfl)) ?_)
          refine WL.want rfl (WL1.give rfl (g_assign rfl (.mk (v := .slice _ _ _) rfl rfl)) ?_)
          refine WL.want rfl (WL1.give rfl (g_assign rfl (.mk (v := .bool _) rfl rfl)) ?_)
          refine WL.nil ?_
          (refine hK _ _ ?_; clear hK)
          refine WC.region rfl ?_
          refine WL.want rfl (WL1.give rfl (g_add rfl (.mk rfl rfl) (.mk rfl rfl) (IntWalk.i64_in _ (by omega))) ?_)
          refine WL.want rfl (WL1.give rfl (g_move rfl (.mk (v := .int _ _) rfl rfl)) ?_)
          refine WL.nil ?_
          exact ⟨i + 1, some l, A2, c2, (by repeat (first | exact trivial | refine ⟨rfl, ?_⟩)), Imp.pick (by repeat (first | exact .head | apply Take.tail)) (Imp.pick (by repeat (first | exact .head | apply Take.tail)) (Imp.nil _)), ⟨by omega, hst.symm⟩, by omega⟩
        | some b =>
          by_cases hlb : l.length < b.length
          · have hst : oS N T bs (i + 1) = some l := hnx.trans (by show (if (decide (l.length < b.length)) = true then some l else some b) = _; rw [decide_eq_true hlb, if_pos rfl])
            have hlb' : l.length < ((some b).getD ([] : List Nat)).length := hlb
            (refine WC.seq ?_; intro K hK)
            refine WC.region rfl ?_
            refine WL.want rfl (WL1.give rfl (g_lt rfl (.mk rfl rfl) (.mk rfl rfl) (decide_eq_true (by omega))) ?_)
            refine WL.nil ?_
            (refine hK _ _ ?_; clear hK)
            (refine WC.seq ?_; intro K hK)
            refine WC.cond_true (.mk rfl rfl) ?_
            refine WC.skip ?_
            (refine hK _ _ ?_; clear hK)
            (refine WC.seq ?_; intro K hK)
            refine WC.block ?_
            (refine WC.seq ?_; intro K hK)
            refine WC.region rfl ?_
            refine WL.want rfl (WL1.give rfl (g_indexG (sz := 1) rfl (.mk rfl rfl) (.mk rfl rfl) rfl rfl rfl rfl hlt2 (by show i * 1 + 1 ≤ 3; omega) hf) ?_)
            refine WL.want rfl (WL1.alloc rfl rfl rfl rfl (fun b13 => ?_))
            refine WL.want rfl (WL1.storeAll rfl rfl (.mk rfl rfl) (.mk rfl rfl) rfl (all1 rfl) (by first | rfl | (simp [Blk.len]; done)) (.head) ?_)
            refine WL.nil ?_
            (refine hK _ _ ?_; clear hK)
            (refine WC.seq ?_; intro K hK)
            refine WC.region rfl ?_
            refine WL.want rfl (WL1.give rfl (g_fieldAddr (off := 0) rfl (.mk rfl rfl) rfl (fun _ _ => rfl)) ?_)
            refine WL.want rfl (WL1.give rfl (g_load rfl (.mk rfl rfl) rfl (rd_pt (by repeat (first | exact .head _ | apply List.Mem.tail)) rfl)) ?_)
            refine WL.want rfl (WL1.give rfl (g_move rfl (.mk (v := .int _ _) rfl rfl)) ?_)
            refine WL.want rfl (WL1.give rfl (g_move rfl (.mk (v := .slice _ _ _) rfl rfl)) ?_)
            refine WL.want rfl (WL1.give rfl (g_load rfl (.mk rfl rfl) rfl (rd_pt (by repeat (first | exact .head _ | apply List.Mem.tail)) rfl)) ?_)
            (refine WL.want rfl (WL1.callVN rfl rfl (.mk rfl rfl) (by first | assumption | rfl | kernel_rfl) (.cons (.mk (v := .int _ _) rfl rfl) (.cons (.mk (v := .slice _ _ _) rfl rfl) (.cons (.mk (v := .slice _ _ _) rfl rfl) .nil))) (fun w hw => hcl w hw.1) ?_); rintro _ _ ⟨A2, c2, rfl, rfl⟩)
            refine WL.want rfl (WL1.give rfl (g_move rfl (.mk (v := .tuple _) rfl rfl)) ?_)
            refine WL.want rfl (WL1.give rfl (g_extract rfl (.mk rfl rfl) rfl) ?_)
            refine WL.want rfl (WL1.give rfl (g_extract rfl (.mk rfl rfl) rfl) ?_)
            refine WL.want rfl (WL1.give rfl (g_assign rfl (.mk (v := .slice _ _ _) rfl rfl)) ?_)
            refine WL.want rfl (WL1.give rfl (g_assign rfl (.mk (v := .bool _) rfl rfl)) ?_)
            refine WL.nil ?_
            (refine hK _ _ ?_; clear hK)
            (refine WC.seq ?_; intro K hK)
            refine WC.region rfl ?_
            refine WL.want rfl (WL1.give rfl (g_move rfl (.mk (v := .bool _) rfl rfl)) ?_)
            refine WL.want rfl (WL1.give rfl (g_move rfl (.mk (v := .bool _) rfl rfl)) ?_)
            refine WL.wantG rfl rfl rfl rfl (WL1.give rfl (g_move rfl (.mk (v := .bool _) rfl rfl)) ?_)
            refine WL.wantG rfl rfl rfl rfl (WL1.give rfl (g_notT rfl (.mk rfl rfl)) ?_)
            refine WL.wantG rfl rfl rfl rfl (WL1.give rfl (g_move rfl (.mk (v := .bool _) rfl rfl)) ?_)
            refine WL.wantG rfl rfl rfl rfl (WL1.give rfl (g_move rfl (.mk (v := .slice _ _ _) rfl rfl)) ?_)
            refine WL.wantG rfl rfl rfl rfl (WL1.give rfl (g_len rfl (.mk rfl rfl) rfl) ?_)
            refine WL.wantG rfl rfl rfl rfl (WL1.give rfl (g_move rfl (.mk (v := .slice _ _ _) rfl rfl)) ?_)
            refine WL.wantG rfl rfl rfl rfl (WL1.give rfl (g_len rfl (.mk rfl rfl) rfl) ?_)
            refine WL.wantG rfl rfl rfl rfl (WL1.give rfl (g_lt rfl (.mk rfl rfl) (.mk rfl rfl) (decide_eq_true (by omega))) ?_)
            refine WL.wantG rfl rfl rfl rfl (WL1.give rfl (g_pickF rfl (.mk rfl rfl) (.mk (v := .bool _) rfl rfl)) ?_)
            refine WL.want rfl (WL1.give rfl (g_pickT rfl (.mk rfl rfl) (.mk (v := .bool _) rfl rfl)) ?_)
            refine WL.nil ?_
            (refine hK _ _ ?_; clear hK)
            refine WC.cond_true (.mk rfl rfl) ?_
            refine WC.region rfl ?_
            refine WL.want rfl (WL1.give rfl (g_move rfl (.mk (v := .slice _ _ _) rfl rfl)) ?_)
            refine WL.want rfl (WL1.give rfl (g_assign rfl (.mk (v := .slice _ _ _) rfl rfl)) ?_)
            refine WL.want rfl (WL1.give rfl (g_assign rfl (.mk (v := .bool _) rfl rfl)) ?_)
            refine WL.nil ?_
            (refine hK _ _ ?_; clear hK)
            refine WC.region rfl ?_
            refine WL.want rfl (WL1.give rfl (g_add rfl (.mk rfl rfl) (.mk rfl rfl) (IntWalk.i64_in _ (by omega))) ?_)
            refine WL.want rfl (WL1.give rfl (g_move rfl (.mk (v := .int _ _) rfl rfl)) ?_)
            refine WL.nil ?_
            exact ⟨i + 1, some l, A2, c2, (by repeat (first | exact trivial | refine ⟨rfl, ?_⟩)), Imp.pick (by repeat (first | exact .head | apply Take.tail)) (Imp.pick (by repeat (first | exact .head | apply Take.tail)) (Imp.nil _)), ⟨by omega, hst.symm⟩, by omega⟩
          · have hst : oS N T bs (i + 1) = some b := hnx.trans (by show (if (decide (l.length < b.length)) = true then some l else some b) = _; rw [decide_eq_false hlb, if_neg Bool.false_ne_true])
            have hlb' : ¬ l.length < ((some b).getD ([] : List Nat)).length := hlb
            (refine WC.seq ?_; intro K hK)
            refine WC.region rfl ?_
            refine WL.want rfl (WL1.give rfl (g_lt rfl (.mk rfl rfl) (.mk rfl rfl) (decide_eq_true (by omega))) ?_)
            refine WL.nil ?_
            (refine hK _ _ ?_; clear hK)
            (refine WC.seq ?_; intro K hK)
            refine WC.cond_true (.mk rfl rfl) ?_
            refine WC.skip ?_
            (refine hK _ _ ?_; clear hK)
            (refine WC.seq ?_; intro K hK)
            refine WC.block ?_
            (refine WC.seq ?_; intro K hK)
            refine WC.region rfl ?_
            refine WL.want rfl (WL1.give rfl (g_indexG (sz := 1) rfl (.mk rfl rfl) (.mk rfl rfl) rfl rfl rfl rfl hlt2 (by show i * 1 + 1 ≤ 3; omega) hf) ?_)
            refine WL.want rfl (WL1.alloc rfl rfl rfl rfl (fun b13 => ?_))
            refine WL.want rfl (WL1.storeAll rfl rfl (.mk rfl rfl) (.mk rfl rfl) rfl (all1 rfl) (by first | rfl | (simp [Blk.len]; done)) (.head) ?_)
            refine WL.nil ?_
            (refine hK _ _ ?_; clear hK)
            (refine WC.seq ?_; intro K hK)
            refine WC.region rfl ?_
            refine WL.want rfl (WL1.give rfl (g_fieldAddr (off := 0) rfl (.mk rfl rfl) rfl (fun _ _ => rfl)) ?_)
            refine WL.want rfl (WL1.give rfl (g_load rfl (.mk rfl rfl) rfl (rd_pt (by repeat (first | exact .head _ | apply List.Mem.tail)) rfl)) ?_)
            refine WL.want rfl (WL1.give rfl (g_move rfl (.mk (v := .int _ _) rfl rfl)) ?_)
            refine WL.want rfl (WL1.give rfl (g_move rfl (.mk (v := .slice _ _ _) rfl rfl)) ?_)
            refine WL.want rfl (WL1.give rfl (g_load rfl (.mk rfl rfl) rfl (rd_pt (by repeat (first | exact .head _ | apply List.Mem.tail)) rfl)) ?_)
            (refine WL.want rfl (WL1.callVN rfl rfl (.mk rfl rfl) (by first | assumption | rfl | kernel_rfl) (.cons (.mk (v := .int _ _) rfl rfl) (.cons (.mk (v := .slice _ _ _) rfl rfl) (.cons (.mk (v := .slice _ _ _) rfl rfl) .nil))) (fun w hw => hcl w hw.1) ?_); rintro _ _ ⟨A2, c2, rfl, rfl⟩)
            refine WL.want rfl (WL1.give rfl (g_move rfl (.mk (v := .tuple _) rfl rfl)) ?_)
            refine WL.want rfl (WL1.give rfl (g_extract rfl (.mk rfl rfl) rfl) ?_)
            refine WL.want rfl (WL1.give rfl (g_extract rfl (.mk rfl rfl) rfl) ?_)
            refine WL.want rfl (WL1.give rfl (g_assign rfl (.mk (v := .slice _ _ _) rfl rfl)) ?_)
            refine WL.want rfl (WL1.give rfl (g_assign rfl (.mk (v := .bool _) rfl rfl)) ?_)
            refine WL.nil ?_
            (refine hK _ _ ?_; clear hK)
            (refine WC.seq ?_; intro K hK)
            refine WC.region rfl ?_
            refine WL.want rfl (WL1.give rfl (g_move rfl (.mk (v := .bool _) rfl rfl)) ?_)
            refine WL.want rfl (WL1.give rfl (g_move rfl (.mk (v := .bool _) rfl rfl)) ?_)
            refine WL.wantG rfl rfl rfl rfl (WL1.give rfl (g_move rfl (.mk (v := .bool _) rfl rfl)) ?_)
            refine WL.wantG rfl rfl rfl rfl (WL1.give rfl (g_notT rfl (.mk rfl rfl)) ?_)
            refine WL.wantG rfl rfl rfl rfl (WL1.give rfl (g_move rfl (.mk (v := .bool _) rfl rfl)) ?_)
            refine WL.wantG rfl rfl rfl rfl (WL1.give rfl (g_move rfl (.mk (v := .slice _ _ _) rfl rfl)) ?_)
            refine WL.wantG rfl rfl rfl rfl (WL1.give rfl (g_len rfl (.mk rfl rfl) rfl) ?_)
            refine WL.wantG rfl rfl rfl rfl (WL1.give rfl (g_move rfl (.mk (v := .slice _ _ _) rfl rfl)) ?_)
            refine WL.wantG rfl rfl rfl rfl (WL1.give rfl (g_len rfl (.mk rfl rfl) rfl) ?_)
            refine WL.wantG rfl rfl rfl rfl (WL1.give rfl (g_lt rfl (.mk rfl rfl) (.mk rfl rfl) (decide_eq_false (by omega))) ?_)
            refine WL.wantG rfl rfl rfl rfl (WL1.give rfl (g_pickF rfl (.mk rfl rfl) (.mk (v := .bool _) rfl rfl)) ?_)
            refine WL.want rfl (WL1.give rfl (g_pickT rfl (.mk rfl rfl) (.mk (v := .bool _) rfl rfl)) ?_)
            refine WL.nil ?_
            (refine hK _ _ ?_; clear hK)
            refine WC.cond_false (.mk rfl rfl) ?_
            refine WC.skip ?_
            (refine hK _ _ ?_; clear hK)
            refine WC.region rfl ?_
            refine WL.want rfl (WL1.give rfl (g_add rfl (.mk rfl rfl) (.mk rfl rfl) (IntWalk.i64_in _ (by omega))) ?_)
            refine WL.want rfl (WL1.give rfl (g_move rfl (.mk (v := .int _ _) rfl rfl)) ?_)
            refine WL.nil ?_
            exact ⟨i + 1, some b, A1, c1, (by repeat (first | exact trivial | refine ⟨rfl, ?_⟩)), Imp.pick (by repeat (first | exact .head | apply Take.tail)) (Imp.pick (by repeat (first | exact .head | apply Take.tail)) (Imp.nil _)), ⟨by omega, hst.symm⟩, by omega⟩
    · obtain rfl : i = 3 := by omega
      subst ho
      (refine WC.seq ?_; intro K hK)
      refine WC.region rfl ?_
      refine WL.want rfl (WL1.give rfl (g_lt rfl (.mk rfl rfl) (.mk rfl rfl) (decide_eq_false (by omega))) ?_)
      refine WL.nil ?_
      (refine hK _ _ ?_; clear hK)
      (refine WC.seq ?_; intro K hK)
      refine WC.cond_false (.mk rfl rfl) ?_
      refine WC.exit ?_
      (clear hK; refine hK _ _ ?_; clear hK)
      (refine WC.seq ?_; intro K hK)
      refine WC.region rfl ?_
      refine WL.want rfl (WL1.give rfl (g_move rfl (.mk (v := .slice _ _ _) rfl rfl)) ?_)
      refine WL.want rfl (WL1.give rfl (g_assign rfl (.mk (v := .slice _ _ _) rfl rfl)) ?_)
      refine WL.want rfl (WL1.give rfl (g_assign rfl (.mk (v := .int _ _) rfl rfl)) ?_)
      refine WL.nil ?_
      (refine hK _ _ ?_; clear hK)
      refine WC.ret ?_
      exact fun w' hw' => ⟨_, _, rfl, hw'.sub (.cons_cons _ (.cons _ .slnil)), A1, c1, rfl, rfl⟩
end Go.Proofs.Ytnkbnponpknokaa
namespace Go.Proofs.Ytnkbnponpknokaa
open Go.RowKit
attribute [local irreducible] Calls
theorem kvs_put {l : List Blk} {k i : Nat} {b : Blk} {v : List Value} (hk : k < l.length) (hi : i = k * 8) (hv : v = b.cells) : spl (kvs l) i v = kvs (l.set k b) := by
  rw [hi, hv]; exact flat_set blk8 (Blk.len b) hk
/-- A change: a piece's number and its new contents. -/
structure Chg where
  s : Int
  b : Blk
instance : Inhabited Chg := ⟨⟨0, 0⟩⟩
def Chg.cells (x : Chg) : List Value := iv x.s :: x.b.cells
def Chg.ok (x : Chg) : Prop := -9223372036854775808 ≤ x.s ∧ x.s ≤ 9223372036854775807
theorem chg9 {l : List Chg} : ∀ x ∈ l, (Chg.cells x).length = 9 := fun x _ => by rw [Chg.cells, List.length_cons, Blk.len]
theorem Chg.len (x : Chg) : x.cells.length = 9 := by rw [Chg.cells, List.length_cons, Blk.len]
set_option maxRecDepth 20000 in
theorem sz9 (x : Chg) : szT Try.prog 70 = some x.cells.length := by rw [Chg.len]; rfl
set_option maxRecDepth 20000 in
theorem sz9r (x : Chg) : szT Try.prog 43 = some x.cells.length := by rw [Chg.len]; rfl
theorem Chg.one (x : Chg) : ∀ u ∈ x.cells, u.oneCell' = true := fun u h => by
  rcases List.mem_cons.1 h with rfl | h
  · rfl
  · exact x.b.one u h
abbrev cvs (l : List Chg) : List Value := l.flatMap Chg.cells
theorem cvs_one (l : List Chg) : ∀ u ∈ cvs l, u.oneCell' = true := fun u h => by
  obtain ⟨x, _, hx⟩ := List.mem_flatMap.1 h; exact x.one u hx
theorem cvs_len (l : List Chg) : (cvs l).length = l.length * 9 := flat_len chg9
theorem chg_row {l : List Chg} {k : Nat} (hk : k < l.length) : ∀ j u, (nth l k).cells[j]? = some u → (cvs l)[k * 9 + j]? = some u := fun j u h => flat_row chg9 hk j u h
theorem Chg.at0 (x : Chg) : x.cells[0]? = some (iv x.s) := rfl
theorem Chg.atb (x : Chg) (j : Nat) (u : Value) (h : x.b.cells[j]? = some u) : x.cells[1 + j]? = some u := by rw [Nat.add_comm, Chg.cells, List.getElem?_cons_succ]; exact h
/-- The change concerns no data piece. -/
def badC (m : Int) (x : Chg) : Bool := decide (x.s < 0 ∨ m - 3 ≤ x.s)
section
variable {w : World} {b : Nat} {m : Int}
set_option maxRecDepth 20000 in
set_option maxHeartbeats 1000000 in
theorem cpred_e (hm : 0 ≤ m ∧ m ≤ 1000) (hc : w.cell? ⟨b, 0, none⟩ = some (iv m)) (x : Chg) (w' : World) (hb : Below w.heap.size w w') : Calls Try.prog 61 #[.agg x.cells.toArray, cellPtr (some ⟨b, 0, none⟩) 0] w' fun e w2 => e = .returned (.bool (badC m x)) ∧ Below w'.heap.size w' w2 := by
  have h1 := kept_cell hb hc
  have g0 : x.cells[0 + (0 + 0)]? = some (iv x.s) := rfl
  have hsub : IntKind.i64.wrap (m - 3) = m - 3 := IntWalk.i64_in _ (by omega)
  by_cases h : x.s < 0
  · rw [show badC m x = true from decide_eq_true (.inl h)]
    refine calls_wc (args := [.agg x.cells.toArray, cellPtr (some ⟨b, 0, none⟩) 0]) [3] [] Try.func61 rfl Try.ntmps61 rfl rfl rfl rfl (H.refl _) ?_
    (refine WC.seq ?_; intro K hK)
    refine WC.region rfl ?_
    refine WL.want rfl (WL1.box rfl rfl (.mk (v := .agg _) rfl rfl) rfl (fun b2 => ?_))
    refine WL.want rfl (WL1.give rfl (g_assign rfl (.mk (v := .bool _) rfl rfl)) ?_)
    refine WL.nil ?_
    (refine hK _ _ ?_; clear hK)
    (refine WC.seq ?_; intro K hK)
    refine WC.region rfl ?_
    refine WL.want rfl (WL1.give rfl (g_fieldAddr (off := 0) rfl (.mk rfl rfl) rfl (fun _ _ => rfl)) ?_)
    refine WL.want rfl (WL1.give rfl (g_load rfl (.mk rfl rfl) rfl (rd_pt (by repeat (first | exact .head _ | apply List.Mem.tail)) g0)) ?_)
    refine WL.want rfl (WL1.give rfl (g_lt rfl (.mk rfl rfl) (.mk rfl rfl) (decide_eq_true (by omega))) ?_)
    refine WL.want rfl (WL1.give rfl (g_move rfl (.mk (v := .bool _) rfl rfl)) ?_)
    refine WL.skipG rfl rfl rfl rfl rfl rfl ?_
    refine WL.skipG rfl rfl rfl rfl rfl rfl ?_
    refine WL.skipG rfl rfl rfl rfl rfl rfl ?_
    refine WL.skipG rfl rfl rfl rfl rfl rfl ?_
    refine WL.skipG rfl rfl rfl rfl rfl rfl ?_
    refine WL.want rfl (WL1.give rfl (g_pickT rfl (.mk rfl rfl) (.mk (v := .bool _) rfl rfl)) ?_)
    refine WL.want rfl (WL1.give rfl (g_assign rfl (.mk (v := .bool _) rfl rfl)) ?_)
    refine WL.nil ?_
    (refine hK _ _ ?_; clear hK)
    refine WC.ret ?_
    exact fun w' hw' => ⟨rfl, hw'.1⟩
  · by_cases h2 : m - 3 ≤ x.s
    · rw [show badC m x = true from decide_eq_true (.inr h2)]
      refine calls_wc (args := [.agg x.cells.toArray, cellPtr (some ⟨b, 0, none⟩) 0]) [3] [] Try.func61 rfl Try.ntmps61 rfl rfl rfl rfl (H.refl _) ?_
      (refine WC.seq ?_; intro K hK)
      refine WC.region rfl ?_
      refine WL.want rfl (WL1.box rfl rfl (.mk (v := .agg _) rfl rfl) rfl (fun b2 => ?_))
      refine WL.want rfl (WL1.give rfl (g_assign rfl (.mk (v := .bool _) rfl rfl)) ?_)
      refine WL.nil ?_
      (refine hK _ _ ?_; clear hK)
      (refine WC.seq ?_; intro K hK)
      refine WC.region rfl ?_
      refine WL.want rfl (WL1.give rfl (g_fieldAddr (off := 0) rfl (.mk rfl rfl) rfl (fun _ _ => rfl)) ?_)
      refine WL.want rfl (WL1.give rfl (g_load rfl (.mk rfl rfl) rfl (rd_pt (by repeat (first | exact .head _ | apply List.Mem.tail)) g0)) ?_)
      refine WL.want rfl (WL1.give rfl (g_lt rfl (.mk rfl rfl) (.mk rfl rfl) (decide_eq_false (by omega))) ?_)
      refine WL.want rfl (WL1.give rfl (g_move rfl (.mk (v := .bool _) rfl rfl)) ?_)
      refine WL.wantG rfl rfl rfl rfl (WL1.give rfl (g_fieldAddr (off := 0) rfl (.mk rfl rfl) rfl (fun _ _ => rfl)) ?_)
      refine WL.wantG rfl rfl rfl rfl (WL1.give rfl (g_load rfl (.mk rfl rfl) rfl (rd_pt (by repeat (first | exact .head _ | apply List.Mem.tail)) g0)) ?_)
      refine WL.wantG rfl rfl rfl rfl (WL1.give rfl (g_load rfl (.mk rfl rfl) rfl (rd_wb h1)) ?_)
      refine WL.wantG rfl rfl rfl rfl (WL1.give rfl (g_sub rfl (.mk rfl rfl) (.mk rfl rfl) hsub) ?_)
      refine WL.wantG rfl rfl rfl rfl (WL1.give rfl (g_ge rfl (.mk rfl rfl) (.mk rfl rfl) (decide_eq_true (by omega))) ?_)
      refine WL.want rfl (WL1.give rfl (g_pickF rfl (.mk rfl rfl) (.mk (v := .bool _) rfl rfl)) ?_)
      refine WL.want rfl (WL1.give rfl (g_assign rfl (.mk (v := .bool _) rfl rfl)) ?_)
      refine WL.nil ?_
      (refine hK _ _ ?_; clear hK)
      refine WC.ret ?_
      exact fun w' hw' => ⟨rfl, hw'.1⟩
    · rw [show badC m x = false from decide_eq_false (by omega)]
      refine calls_wc (args := [.agg x.cells.toArray, cellPtr (some ⟨b, 0, none⟩) 0]) [3] [] Try.func61 rfl Try.ntmps61 rfl rfl rfl rfl (H.refl _) ?_
      (refine WC.seq ?_; intro K hK)
      refine WC.region rfl ?_
      refine WL.want rfl (WL1.box rfl rfl (.mk (v := .agg _) rfl rfl) rfl (fun b2 => ?_))
      refine WL.want rfl (WL1.give rfl (g_assign rfl (.mk (v := .bool _) rfl rfl)) ?_)
      refine WL.nil ?_
      (refine hK _ _ ?_; clear hK)
      (refine WC.seq ?_; intro K hK)
      refine WC.region rfl ?_
      refine WL.want rfl (WL1.give rfl (g_fieldAddr (off := 0) rfl (.mk rfl rfl) rfl (fun _ _ => rfl)) ?_)
      refine WL.want rfl (WL1.give rfl (g_load rfl (.mk rfl rfl) rfl (rd_pt (by repeat (first | exact .head _ | apply List.Mem.tail)) g0)) ?_)
      refine WL.want rfl (WL1.give rfl (g_lt rfl (.mk rfl rfl) (.mk rfl rfl) (decide_eq_false (by omega))) ?_)
      refine WL.want rfl (WL1.give rfl (g_move rfl (.mk (v := .bool _) rfl rfl)) ?_)
      refine WL.wantG rfl rfl rfl rfl (WL1.give rfl (g_fieldAddr (off := 0) rfl (.mk rfl rfl) rfl (fun _ _ => rfl)) ?_)
      refine WL.wantG rfl rfl rfl rfl (WL1.give rfl (g_load rfl (.mk rfl rfl) rfl (rd_pt (by repeat (first | exact .head _ | apply List.Mem.tail)) g0)) ?_)
      refine WL.wantG rfl rfl rfl rfl (WL1.give rfl (g_load rfl (.mk rfl rfl) rfl (rd_wb h1)) ?_)
      refine WL.wantG rfl rfl rfl rfl (WL1.give rfl (g_sub rfl (.mk rfl rfl) (.mk rfl rfl) hsub) ?_)
      refine WL.wantG rfl rfl rfl rfl (WL1.give rfl (g_ge rfl (.mk rfl rfl) (.mk rfl rfl) (decide_eq_false (by omega))) ?_)
      refine WL.want rfl (WL1.give rfl (g_pickF rfl (.mk rfl rfl) (.mk (v := .bool _) rfl rfl)) ?_)
      refine WL.want rfl (WL1.give rfl (g_assign rfl (.mk (v := .bool _) rfl rfl)) ?_)
      refine WL.nil ?_
      (refine hK _ _ ?_; clear hK)
      refine WC.ret ?_
      exact fun w' hw' => ⟨rfl, hw'.1⟩
end
set_option maxRecDepth 20000 in
set_option maxHeartbeats 1000000 in
theorem cindex_e (v : Value) (l : List Chg) (b : Nat) (m : Int) (w : World) (hm0 : 0 ≤ m ∧ m ≤ 1000) (hv : Sl w 9 v l.length (cvs l)) (hc : w.cell? ⟨b, 0, none⟩ = some (iv m)) :
    Calls Try.prog 76 #[v, .func (.func 61) #[] #[cellPtr (some ⟨b, 0, none⟩) 0]] w fun e w' => e = .returned (iv (fz (fnd (fun k => badC m (nth l k)) l.length))) ∧ Below w.heap.size w w' := by
  obtain ⟨A, cc, rfl, hcc, hm, hs⟩ := hv.open_
  unfold maxLen at hm
  refine calls_wc (args := [.slice A l.length cc, .func (.func 61) #[] #[cellPtr (some ⟨b, 0, none⟩) 0]]) [4] [] Try.func76 rfl Try.ntmps76 rfl rfl rfl rfl (H.refl _) ?_
  (refine WC.seq ?_; intro K hK)
  refine WC.region rfl ?_
  refine WL.want rfl (WL1.give rfl (g_assign rfl (.mk (v := .int _ _) rfl rfl)) ?_)
  refine WL.nil ?_
  (refine hK _ _ ?_; clear hK)
  (refine WC.seq ?_; intro K hK)
  (refine WC.seq ?_; intro K hK)
  refine WC.region rfl ?_
  refine WL.want rfl (WL1.give rfl (g_move rfl (.mk (v := .slice _ _ _) rfl rfl)) ?_)
  refine WL.want rfl (WL1.give rfl (g_len rfl (.mk rfl rfl) rfl) ?_)
  refine WL.want rfl (WL1.give rfl (g_move rfl (.mk (v := .int _ _) rfl rfl)) ?_)
  refine WL.nil ?_
  (refine hK _ _ ?_; clear hK)
  refine WC.block ?_
  refine WC.loopF (fun k : Nat => [(8, iv k), (7, iv l.length), (0, .slice A l.length cc), (1, .func (.func 61) #[] #[cellPtr (some ⟨b, 0, none⟩) 0])]) (fun _ => []) (fun k => k ≤ l.length ∧ ∀ j, j < k → badC m (nth l j) = false) (fun k => l.length - k) 0 (by repeat (first | exact trivial | refine ⟨rfl, ?_⟩)) (Imp.nil _) ⟨by omega, fun j hj => absurd hj (by omega)⟩ ?_
  rintro k U ⟨hk, hq⟩
  by_cases hlt : k < l.length
  · have hgd := chg_row (l := l) (k := k) hlt
    have hcl := fun w' hb => cpred_e (w := w) hm0 hc (nth l k) w' hb
    cases hz : badC m (nth l k) with
    | false =>
      rw [hz] at hcl
      (refine WC.seq ?_; intro K hK)
      refine WC.region rfl ?_
      refine WL.want rfl (WL1.give rfl (g_lt rfl (.mk rfl rfl) (.mk rfl rfl) (decide_eq_true (by omega))) ?_)
      refine WL.nil ?_
      (refine hK _ _ ?_; clear hK)
      (refine WC.seq ?_; intro K hK)
      refine WC.cond_true (.mk rfl rfl) ?_
      refine WC.skip ?_
      (refine hK _ _ ?_; clear hK)
      (refine WC.seq ?_; intro K hK)
      refine WC.block ?_
      (refine WC.seq ?_; intro K hK)
      refine WC.region rfl ?_
      refine WL.want rfl (WL1.give rfl (g_move rfl (.mk (v := .int _ _) rfl rfl)) ?_)
      refine WL.want rfl (WL1.give rfl (g_assign rfl (.mk (v := .int _ _) rfl rfl)) ?_)
      refine WL.nil ?_
      (refine hK _ _ ?_; clear hK)
      (refine WC.seq ?_; intro K hK)
      refine WC.region rfl ?_
      refine WL.want rfl (WL1.give rfl (g_move rfl (.mk (v := .func _ _ _) rfl rfl)) ?_)
      refine WL.want rfl (WL1.give rfl (g_move rfl (.mk (v := .slice _ _ _) rfl rfl)) ?_)
      refine WL.want rfl (WL1.give rfl (g_move rfl (.mk (v := .int _ _) rfl rfl)) ?_)
      refine WL.want rfl (WL1.give rfl (g_indexAddr (sz := 9) rfl (.mk rfl rfl) (.mk rfl rfl) rfl rfl rfl (by omega) (fun _ _ => sl_some hs (by omega))) ?_)
      refine WL.want rfl (WL1.give rfl (g_loadA rfl (.mk rfl rfl) rfl (sz9 _) (rdr_sl hs (by omega) hgd)) ?_)
      refine WL.want rfl (WL1.callVP rfl rfl (.mk rfl rfl) (by first | assumption | rfl) (.cons (.mk (v := .agg _) rfl rfl) .nil) (fun w hw => hcl w hw.1) ?_)
      refine WL.nil ?_
      (refine hK _ _ ?_; clear hK)
      refine WC.cond_false (.mk rfl rfl) ?_
      refine WC.skip ?_
      (refine hK _ _ ?_; clear hK)
      refine WC.region rfl ?_
      refine WL.want rfl (WL1.give rfl (g_add rfl (.mk rfl rfl) (.mk rfl rfl) (IntWalk.i64_in _ (by omega))) ?_)
      refine WL.want rfl (WL1.give rfl (g_move rfl (.mk (v := .int _ _) rfl rfl)) ?_)
      refine WL.nil ?_
      refine ⟨k + 1, (by repeat (first | exact trivial | refine ⟨rfl, ?_⟩)), .refl _, ⟨by omega, fun j hj => ?_⟩, by omega⟩
      by_cases e : j = k
      · rw [e]; exact hz
      · exact hq j (by omega)
    | true =>
      rw [hz] at hcl
      (refine WC.seq ?_; intro K hK)
      refine WC.region rfl ?_
      refine WL.want rfl (WL1.give rfl (g_lt rfl (.mk rfl rfl) (.mk rfl rfl) (decide_eq_true (by omega))) ?_)
      refine WL.nil ?_
      (refine hK _ _ ?_; clear hK)
      (refine WC.seq ?_; intro K hK)
      refine WC.cond_true (.mk rfl rfl) ?_
      refine WC.skip ?_
      (refine hK _ _ ?_; clear hK)
      (refine WC.seq ?_; intro K hK)
      refine WC.block ?_
      (refine WC.seq ?_; intro K hK)
      refine WC.region rfl ?_
      refine WL.want rfl (WL1.give rfl (g_move rfl (.mk (v := .int _ _) rfl rfl)) ?_)
      refine WL.want rfl (WL1.give rfl (g_assign rfl (.mk (v := .int _ _) rfl rfl)) ?_)
      refine WL.nil ?_
      (refine hK _ _ ?_; clear hK)
      (refine WC.seq ?_; intro K hK)
      refine WC.region rfl ?_
      refine WL.want rfl (WL1.give rfl (g_move rfl (.mk (v := .func _ _ _) rfl rfl)) ?_)
      refine WL.want rfl (WL1.give rfl (g_move rfl (.mk (v := .slice _ _ _) rfl rfl)) ?_)
      refine WL.want rfl (WL1.give rfl (g_move rfl (.mk (v := .int _ _) rfl rfl)) ?_)
      refine WL.want rfl (WL1.give rfl (g_indexAddr (sz := 9) rfl (.mk rfl rfl) (.mk rfl rfl) rfl rfl rfl (by omega) (fun _ _ => sl_some hs (by omega))) ?_)
      refine WL.want rfl (WL1.give rfl (g_loadA rfl (.mk rfl rfl) rfl (sz9 _) (rdr_sl hs (by omega) hgd)) ?_)
      refine WL.want rfl (WL1.callVP rfl rfl (.mk rfl rfl) (by first | assumption | rfl) (.cons (.mk (v := .agg _) rfl rfl) .nil) (fun w hw => hcl w hw.1) ?_)
      refine WL.nil ?_
      (refine hK _ _ ?_; clear hK)
      refine WC.cond_true (.mk rfl rfl) ?_
      (refine WC.seq ?_; intro K hK)
      refine WC.region rfl ?_
      refine WL.want rfl (WL1.give rfl (g_move rfl (.mk (v := .int _ _) rfl rfl)) ?_)
      refine WL.want rfl (WL1.give rfl (g_assign rfl (.mk (v := .int _ _) rfl rfl)) ?_)
      refine WL.nil ?_
      (refine hK _ _ ?_; clear hK)
      refine WC.ret ?_
      exact fun w' hw' => ⟨by rw [fnd_eq (p := fun k => badC m (nth l k)) hlt hz hq]; rfl, hw'.1⟩
  · obtain rfl : k = l.length := by omega
    (refine WC.seq ?_; intro K hK)
    refine WC.region rfl ?_
    refine WL.want rfl (WL1.give rfl (g_lt rfl (.mk rfl rfl) (.mk rfl rfl) (decide_eq_false (by omega))) ?_)
    refine WL.nil ?_
    (refine hK _ _ ?_; clear hK)
    (refine WC.seq ?_; intro K hK)
    refine WC.cond_false (.mk rfl rfl) ?_
    refine WC.exit ?_
    (clear hK; refine hK _ _ ?_; clear hK)
    (refine WC.seq ?_; intro K hK)
    refine WC.region rfl ?_
    refine WL.want rfl (WL1.give rfl (g_assign rfl (.mk (v := .int _ _) rfl rfl)) ?_)
    refine WL.nil ?_
    (refine hK _ _ ?_; clear hK)
    refine WC.ret ?_
    exact fun w' hw' => ⟨by rw [fnd_all hq]; rfl, hw'.1⟩
set_option maxRecDepth 20000 in
set_option maxHeartbeats 1000000 in
theorem ccontains_e (v : Value) (l : List Chg) (b : Nat) (m : Int) (w : World) (hm0 : 0 ≤ m ∧ m ≤ 1000) (hv : Sl w 9 v l.length (cvs l)) (hc : w.cell? ⟨b, 0, none⟩ = some (iv m)) :
    Calls Try.prog 60 #[v, .func (.func 61) #[] #[cellPtr (some ⟨b, 0, none⟩) 0]] w fun e w' => e = .returned (.bool (fnd (fun k => badC m (nth l k)) l.length).isSome) ∧ Below w.heap.size w w' := by
  have hix := fun w' (hb : Below w.heap.size w w') => cindex_e v l b m w' hm0 (hv.below hb) (kept_cell hb hc)
  obtain ⟨o, ho⟩ : ∃ o, o = fnd (fun k => badC m (nth l k)) l.length := ⟨_, rfl⟩
  rw [← ho] at hix ⊢
  have hb := fz_ge o
  refine calls_wc (args := [v, .func (.func 61) #[] #[cellPtr (some ⟨b, 0, none⟩) 0]]) [4] [] Try.func60 rfl Try.ntmps60 rfl rfl rfl rfl (H.refl _) ?_
  (refine WC.seq ?_; intro K hK)
  refine WC.region rfl ?_
  refine WL.want rfl (WL1.give rfl (g_assign rfl (.mk (v := .bool _) rfl rfl)) ?_)
  refine WL.nil ?_
  (refine hK _ _ ?_; clear hK)
  (refine WC.seq ?_; intro K hK)
  refine WC.region rfl ?_
  refine WL.want rfl (WL1.give rfl (g_move rfl (.mk rfl (by conv => lhs; whnf))) ?_)
  refine WL.want rfl (WL1.give rfl (g_move rfl (.mk (v := .func _ _ _) rfl rfl)) ?_)
  refine WL.want rfl (WL1.callP rfl rfl rfl (.cons (.mk rfl (by conv => lhs; whnf)) (.cons (.mk (v := .func _ _ _) rfl rfl) .nil)) (fun w hw => hix w hw.1) ?_)
  refine WL.want rfl (WL1.give rfl (g_ge rfl (.mk rfl rfl) (.mk rfl rfl) hb) ?_)
  refine WL.want rfl (WL1.give rfl (g_assign rfl (.mk (v := .bool _) rfl rfl)) ?_)
  refine WL.nil ?_
  (refine hK _ _ ?_; clear hK)
  refine WC.ret ?_
  exact fun w' hw' => ⟨rfl, hw'.1⟩
/-- All changes concern data pieces. -/
def okC (m : Int) (l : List Chg) : Bool := !(fnd (fun k => badC m (nth l k)) l.length).isSome
set_option maxRecDepth 20000 in
set_option maxHeartbeats 1000000 in
theorem changes_e (v : Value) (l : List Chg) (m : Int) (w : World) (hm0 : 0 ≤ m ∧ m ≤ 1000) (hv : Sl w 9 v l.length (cvs l)) :
    Calls Try.prog 35 #[iv m, v] w fun e w' => e = .returned (.bool (okC m l)) ∧ Below w.heap.size w w' := by
  obtain ⟨A, cc, rfl, hcc, hm, hs⟩ := hv.open_
  refine calls_wc (args := [iv m, .slice A l.length cc]) [4] [] Try.func35 rfl Try.ntmps35 rfl rfl rfl rfl (H.refl _) ?_
  (refine WC.seq ?_; intro K hK)
  refine WC.region rfl ?_
  refine WL.want rfl (WL1.box rfl rfl (.mk (v := .int _ _) rfl rfl) rfl (fun b2 => ?_))
  refine WL.want rfl (WL1.give rfl (g_assign rfl (.mk (v := .bool _) rfl rfl)) ?_)
  refine WL.nil ?_
  (refine hK _ _ ?_; clear hK)
  (refine WC.seq ?_; intro K hK)
  refine WC.region rfl ?_
  refine WL.want rfl (WL1.give rfl (g_move rfl (.mk (v := .slice _ _ _) rfl rfl)) ?_)
  refine WL.want rfl (WL1.give rfl (g_makeFunc rfl (.cons (.mk (v := cellPtr _ _) rfl rfl) .nil)) ?_)
  refine WL.want rfl (WL1.callP rfl rfl rfl (.cons (.mk (v := .slice _ _ _) rfl rfl) (.cons (.mk (v := .func _ _ _) rfl rfl) .nil)) (fun w hw => ccontains_e _ l b2 m w hm0 (hs.below hw.1) (cell_pt hw (by repeat (first | exact .head _ | apply List.Mem.tail)) rfl)) ?_)
  refine WL.want rfl (WL1.give rfl (g_not rfl (.mk rfl rfl)) ?_)
  refine WL.want rfl (WL1.give rfl (g_assign rfl (.mk (v := .bool _) rfl rfl)) ?_)
  refine WL.nil ?_
  (refine hK _ _ ?_; clear hK)
  refine WC.ret ?_
  exact fun w' hw' => ⟨rfl, hw'.1⟩
theorem okC_each {m : Int} {l : List Chg} (h : okC m l = true) {k : Nat} (hk : k < l.length) : 0 ≤ (nth l k).s ∧ (nth l k).s < m - 3 := by
  have : fnd (fun k => badC m (nth l k)) l.length = none := by
    unfold okC at h
    cases e : fnd (fun k => badC m (nth l k)) l.length with
    | none => rfl
    | some j => rw [e] at h; cases h
  have := fnd_none this k hk
  have := of_decide_eq_false this
  omega
set_option maxRecDepth 20000 in
set_option maxHeartbeats 1000000 in
theorem complete_n (v : Value) (ds : List Blk) (w : World) (hv : Sl w 8 v ds.length (kvs ds)) (h1 : 1 ≤ ds.length) (h2 : ds.length ≤ 13) : Calls Try.prog 37 #[v] w fun e w' => ∃ v' M, e = .returned v' ∧ H w M w' ∧ ∃ A c, v' = .slice A (ds.length + 3) c ∧ M = [vec A (ds.length + 3) c 38 8 (kvs (ds ++ enc ds))] := by
  obtain ⟨A, c, rfl, hc, hm, hs⟩ := hv.open_
  refine calls_wc (args := [.slice A ds.length c]) [2] [] Try.func37 rfl Try.ntmps37 rfl rfl rfl rfl (H.refl _) ?_
  (refine WC.seq ?_; intro K hK)
  refine WC.region rfl ?_
  refine WL.want rfl (WL1.give rfl (g_assign rfl (.mk (v := .slice _ _ _) rfl rfl)) ?_)
  refine WL.nil ?_
  (refine hK _ _ ?_; clear hK)
  (refine WC.seq ?_; intro K hK)
  refine WC.region rfl ?_
  refine WL.want rfl (WL1.give rfl (g_move rfl (.mk (v := .slice _ _ _) rfl rfl)) ?_)
  (refine WL.want rfl (WL1.callN rfl rfl rfl (.cons (.mk (v := .slice _ _ _) rfl rfl) .nil) (fun w hw => encode_n _ ds w (hs.below hw.1) h1 h2) ?_); rintro _ _ ⟨bp, rfl, rfl⟩)
  refine WL.want rfl (WL1.give rfl (g_move rfl (.mk (v := .tuple _) rfl rfl)) ?_)
  refine WL.want rfl (WL1.give rfl (g_extract rfl (.mk rfl rfl) rfl) ?_)
  refine WL.want rfl (WL1.give rfl (g_extract rfl (.mk rfl rfl) rfl) ?_)
  refine WL.want rfl (WL1.give rfl (g_assign rfl (.mk (v := .slice _ _ _) rfl rfl)) ?_)
  refine WL.want rfl (WL1.give rfl (g_assign rfl (.mk (v := .int _ _) rfl rfl)) ?_)
  refine WL.nil ?_
  (refine hK _ _ ?_; clear hK)
  (refine WC.seq ?_; intro K hK)
  refine WC.region rfl ?_
  refine WL.want rfl (WL1.give rfl (g_move rfl (.mk (v := .slice _ _ _) rfl rfl)) ?_)
  (refine WL.want rfl (WL1.callN rfl rfl rfl (.cons (.mk (v := .slice _ _ _) rfl rfl) .nil) (fun w hw => clone_n _ ds w (hs.below hw.1) h1 (by omega)) ?_); rintro _ _ ⟨A2, c2, rfl, rfl⟩)
  refine WL.want rfl (WL1.give rfl (g_move rfl (.mk (v := .slice _ _ _) rfl rfl)) ?_)
  refine WL.want rfl (WL1.append elK rfl rfl (.mk rfl rfl) (.mk rfl rfl) (.head) (fun w hw => Sl.of_vec hw (.tail _ (.head _))) (kvs_one _) (by unfold maxLen; omega) (by omega) (fun A13 c13 => ?_))
  refine WL.want rfl (WL1.give rfl (g_assign rfl (.mk (v := .slice _ _ _) rfl rfl)) ?_)
  refine WL.nil ?_
  (refine hK _ _ ?_; clear hK)
  refine WC.ret ?_
  exact fun w' hw' => ⟨_, _, rfl, hw'.sub (.cons_cons _ (List.nil_sublist _)), A13, c13, rfl, by rw [kvs_app]⟩
/-- The data pieces after the first i changes. -/
def datP (ds : List Blk) (l : List Chg) : Nat → List Blk
  | 0 => ds
  | i + 1 => (datP ds l i).set (nth l i).s.toNat (nth l i).b
theorem datP_len (ds : List Blk) (l : List Chg) : ∀ i, (datP ds l i).length = ds.length
  | 0 => rfl
  | i + 1 => by rw [datP, List.length_set, datP_len ds l i]
/-- The group after the changes. -/
def apL (ps : List Blk) (l : List Chg) : List Blk := datP (ps.take (ps.length - 3)) l l.length ++ enc (datP (ps.take (ps.length - 3)) l l.length)
def difP (qs ps : List Blk) (i : Nat) : Bool := decide (nth qs i ≠ nth ps i)
set_option maxRecDepth 20000 in
set_option maxHeartbeats 4000000 in
theorem apply_n (vp vl : Value) (ps : List Blk) (l : List Chg) (n : Nat) (w : World) (hp : Sl w 8 vp ps.length (kvs ps)) (hl : Sl w 9 vl l.length (cvs l)) (hn : ps.length = n + 3) (h1 : 1 ≤ n) (h2 : n ≤ 13) (hll : l.length ≤ 1000000) (hg : isGroup ps = true) (ho : okC ps.length l = true) :
    Calls Try.prog 12 #[vp, vl] w fun e w' => ∃ v' M, e = .returned v' ∧ H w M w' ∧ ∃ A c F fc, v' = .tuple #[.slice A ps.length c, .slice F (numL (difP (apL ps l) ps) ps.length).length fc, iv 0] ∧ M = [vec A ps.length c 38 8 (kvs (apL ps l)), vec F (numL (difP (apL ps l) ps) ps.length).length fc 3 1 (ldv (numL (difP (apL ps l) ps) ps.length))] := by
  have hck := fun w' hb => check_e vp ps w' (hp.below (w' := w') hb) (by omega)
  have hch := fun w' hb => changes_e vl l ps.length w' (by omega) (hl.below (w' := w') hb)
  rw [hg] at hck
  rw [ho] at hch
  have hoe := fun k (hk : k < l.length) => okC_each ho hk
  obtain ⟨A, c, rfl, hcc, hm, hs⟩ := hp.open_
  obtain ⟨B, d, rfl, hcd, hmd, hsb⟩ := hl.open_
  have hsub : IntKind.i64.wrap ((ps.length : Int) - 3) = (n : Int) := by rw [IntWalk.i64_in _ (by omega)]; omega
  have htl : (ps.take n).length = n := by rw [List.length_take]; omega
  have htk : ∀ w', Below w.heap.size w w' → Sl w' 8 (.slice (subA A c 0 8) (n - 0) (c - 0)) n (kvs (ps.take n)) := fun w' hb => by
    have := Sl.blks (l := 0) (h := n) (hs.below hb) rfl (by omega) (by omega)
    rwa [List.drop_zero, Nat.sub_zero, htl] at this
  have hcl : ∀ (v : Value) (w' : World), Sl w' 8 v n (kvs (ps.take n)) → Calls Try.prog 36 #[v] w' fun e w2 => ∃ v' M, e = .returned v' ∧ H w' M w2 ∧ ∃ A c, v' = .slice A n c ∧ M = [vec A n c 38 8 (kvs (datP (ps.take n) l 0))] := fun v w' h => by
    have := clone_n v (ps.take n) w' (by rw [htl]; exact h) (by omega) (by omega)
    rwa [htl] at this
  have hap : apL ps l = datP (ps.take n) l l.length ++ enc (datP (ps.take n) l l.length) := by unfold apL; rw [show ps.length - 3 = n from by omega]
  refine calls_wc (args := [.slice A ps.length c, .slice B l.length d]) [4, 5, 6] [] Try.func12 rfl Try.ntmps12 rfl rfl rfl rfl (H.refl _) ?_
  (refine WC.seq ?_; intro K hK)
  refine WC.region rfl ?_
  refine WL.want rfl (WL1.give rfl (g_assign rfl (.mk (v := .slice _ _ _) rfl rfl)) ?_)
  refine WL.want rfl (WL1.give rfl (g_assign rfl (.mk (v := .slice _ _ _) rfl rfl)) ?_)
  refine WL.want rfl (WL1.give rfl (g_assign rfl (.mk (v := .int _ _) rfl rfl)) ?_)
  refine WL.nil ?_
  (refine hK _ _ ?_; clear hK)
  (refine WC.seq ?_; intro K hK)
  refine WC.region rfl ?_
  refine WL.want rfl (WL1.give rfl (g_move rfl (.mk (v := .slice _ _ _) rfl rfl)) ?_)
  refine WL.want rfl (WL1.give rfl (g_len rfl (.mk rfl rfl) rfl) ?_)
  refine WL.want rfl (WL1.give rfl (g_assign rfl (.mk (v := .int _ _) rfl rfl)) ?_)
  refine WL.nil ?_
  (refine hK _ _ ?_; clear hK)
  (refine WC.seq ?_; intro K hK)
  (refine WC.seq ?_; intro K hK)
  refine WC.region rfl ?_
  refine WL.want rfl (WL1.give rfl (g_move rfl (.mk (v := .slice _ _ _) rfl rfl)) ?_)
  refine WL.want rfl (WL1.callP rfl rfl rfl (.cons (.mk (v := .slice _ _ _) rfl rfl) .nil) (fun w hw => hck w hw.1) ?_)
  refine WL.want rfl (WL1.give rfl (g_notT rfl (.mk rfl rfl)) ?_)
  refine WL.want rfl (WL1.give rfl (g_move rfl (.mk (v := .bool _) rfl rfl)) ?_)
  refine WL.wantG rfl rfl rfl rfl (WL1.give rfl (g_move rfl (.mk (v := .int _ _) rfl rfl)) ?_)
  refine WL.wantG rfl rfl rfl rfl (WL1.give rfl (g_move rfl (.mk (v := .slice _ _ _) rfl rfl)) ?_)
  refine WL.wantG rfl rfl rfl rfl (WL1.callP rfl rfl rfl (.cons (.mk (v := .int _ _) rfl rfl) (.cons (.mk (v := .slice _ _ _) rfl rfl) .nil)) (fun w hw => hch w hw.1) ?_)
  refine WL.wantG rfl rfl rfl rfl (WL1.give rfl (g_notT rfl (.mk rfl rfl)) ?_)
  refine WL.want rfl (WL1.give rfl (g_pickF rfl (.mk rfl rfl) (.mk (v := .bool _) rfl rfl)) ?_)
  refine WL.nil ?_
  (refine hK _ _ ?_; clear hK)
  refine WC.cond_false (.mk rfl rfl) ?_
  refine WC.skip ?_
  (refine hK _ _ ?_; clear hK)
  (refine WC.seq ?_; intro K hK)
  refine WC.region rfl ?_
  refine WL.want rfl (WL1.give rfl (g_move rfl (.mk (v := .slice _ _ _) rfl rfl)) ?_)
  refine WL.want rfl (WL1.give rfl (g_move rfl (.mk (v := .int _ _) rfl rfl)) ?_)
  refine WL.want rfl (WL1.give rfl (g_sub rfl (.mk rfl rfl) (.mk rfl rfl) hsub) ?_)
  refine WL.want rfl (WL1.give rfl (g_slice (sz := 8) (kl := .i64) (p := 0) rfl (.mk rfl rfl) rfl rfl rfl ⟨(.mk rfl rfl), rfl⟩ (by omega) (by omega)) ?_)
  (refine WL.want rfl (WL1.callN rfl rfl rfl (.cons (.mk (v := .slice _ _ _) rfl rfl) .nil) (fun w hw => hcl _ w (htk w hw.1)) ?_); rintro _ _ ⟨Ac, cc2, rfl, rfl⟩)
  refine WL.want rfl (WL1.give rfl (g_assign rfl (.mk (v := .slice _ _ _) rfl rfl)) ?_)
  refine WL.nil ?_
  (refine hK _ _ ?_; clear hK)
  (refine WC.seq ?_; intro K hK)
  (refine WC.seq ?_; intro K hK)
  refine WC.region rfl ?_
  refine WL.want rfl (WL1.give rfl (g_move rfl (.mk (v := .slice _ _ _) rfl rfl)) ?_)
  refine WL.want rfl (WL1.give rfl (g_len rfl (.mk rfl rfl) rfl) ?_)
  refine WL.want rfl (WL1.give rfl (g_move rfl (.mk (v := .int _ _) rfl rfl)) ?_)
  refine WL.nil ?_
  (refine hK _ _ ?_; clear hK)
  refine WC.block ?_
  refine WC.loopF (fun i : Nat => [(32, iv i), (31, iv l.length), (30, .slice B l.length d), (8, .slice Ac n cc2), (0, .slice A ps.length c)]) (fun i => [vec Ac n cc2 38 8 (kvs (datP (ps.take n) l i))]) (fun i => i ≤ l.length) (fun i => l.length - i) 0 (by repeat (first | exact trivial | refine ⟨rfl, ?_⟩)) (.refl _) (by omega) ?_
  intro i U hi
  have hdl := datP_len (ps.take n) l i
  rw [htl] at hdl
  have hkl : (kvs (datP (ps.take n) l i)).length = n * 8 := by rw [kvs_len, hdl]
  by_cases hlt : i < l.length
  · have hgd := chg_row (l := l) (k := i) hlt
    obtain ⟨q1, q2⟩ := hoe i hlt
    have hdn : datP (ps.take n) l (i + 1) = (datP (ps.take n) l i).set (nth l i).s.toNat (nth l i).b := rfl
    obtain ⟨x, hx⟩ : ∃ x, x = nth l i := ⟨_, rfl⟩
    rw [← hx] at hgd q1 q2 hdn
    obtain ⟨z, hz⟩ : ∃ z : Nat, x.s = z := ⟨x.s.toNat, by omega⟩
    have g0 : x.cells[0 + (0 + 0)]? = some (iv z) := by rw [← hz]; rfl
    have gb : ∀ j u, x.b.cells[j]? = some u → x.cells[0 + (0 + 1 + j)]? = some u := fun j u h => by rw [show 0 + (0 + 1 + j) = 1 + j from by omega]; exact x.atb j u h
    have hz2 : x.s.toNat = z := by omega
    rw [hz2] at hdn
    have hsp : ∀ i0 v0, i0 = z * 8 → v0 = x.b.cells → spl (kvs (datP (ps.take n) l i)) i0 v0 = kvs (datP (ps.take n) l (i + 1)) := fun i0 v0 h h' => (kvs_put (by omega) h h').trans (congrArg kvs hdn.symm)
    have hzn : z < n := by omega
    clear hx hdn
    (refine WC.seq ?_; intro K hK)
    refine WC.region rfl ?_
    refine WL.want rfl (WL1.give rfl (g_lt rfl (.mk rfl rfl) (.mk rfl rfl) (decide_eq_true (by omega))) ?_)
    refine WL.nil ?_
    (refine hK _ _ ?_; clear hK)
    (refine WC.seq ?_; intro K hK)
    refine WC.cond_true (.mk rfl rfl) ?_
    refine WC.skip ?_
    (refine hK _ _ ?_; clear hK)
    (refine WC.seq ?_; intro K hK)
    refine WC.block ?_
    (refine WC.seq ?_; intro K hK)
    refine WC.region rfl ?_
    refine WL.want rfl (WL1.give rfl (g_indexAddr (sz := 9) rfl (.mk rfl rfl) (.mk rfl rfl) rfl rfl rfl (by omega) (fun _ _ => sl_some hsb (by omega))) ?_)
    refine WL.want rfl (WL1.give rfl (g_loadA rfl (.mk rfl rfl) rfl (sz9 _) (rdr_sl hsb (by omega) hgd)) ?_)
    refine WL.want rfl (WL1.alloc rfl rfl rfl rfl (fun b10 => ?_))
    refine WL.want rfl (WL1.storeAll rfl rfl (.mk rfl rfl) (.mk rfl rfl) (sz9 _) (Chg.one _) (by rw [Chg.len]; rfl) .head ?_)
    refine WL.nil ?_
    (refine hK _ _ ?_; clear hK)
    refine WC.region rfl ?_
    refine WL.want rfl (WL1.give rfl (g_move rfl (.mk (v := .slice _ _ _) rfl rfl)) ?_)
    refine WL.want rfl (WL1.give rfl (g_fieldAddr (off := 0) rfl (.mk rfl rfl) rfl (fun _ _ => rfl)) ?_)
    refine WL.want rfl (WL1.give rfl (g_load rfl (.mk rfl rfl) rfl (rd_pt (by repeat (first | exact .head _ | apply List.Mem.tail)) g0)) ?_)
    refine WL.want rfl (WL1.give rfl (g_fieldAddr (off := 1) rfl (.mk rfl rfl) rfl (fun _ _ => rfl)) ?_)
    refine WL.want rfl (WL1.give rfl (g_loadA rfl (.mk rfl rfl) rfl (sz8 _) (rdr_pt (cs := x.b.cells) (by repeat (first | exact .head _ | apply List.Mem.tail)) gb)) ?_)
    refine WL.want rfl (WL1.give rfl (g_indexAddr (sz := 8) rfl (.mk rfl rfl) (.mk rfl rfl) rfl rfl rfl (by omega) (fun w hw => vec_some hw (.tail _ (.head _)) (by omega))) ?_)
    refine WL.want rfl (WL1.storeVA rfl rfl (.mk rfl rfl) (.mk rfl rfl) (sz8 _) (Blk.one _) (by first | decide | omega | exact Nat.le_of_ble_eq_true rfl | (simp; done) | (simp; omega) | (rw [Blk.len]; omega)) (by first | omega | (rw [Blk.len]; omega) | (simp; done) | (simp; omega)) (.tail (.head)) ?_)
    refine WL.nil ?_
    (refine hK _ _ ?_; clear hK)
    refine WC.region rfl ?_
    refine WL.want rfl (WL1.give rfl (g_add rfl (.mk rfl rfl) (.mk rfl rfl) (IntWalk.i64_in _ (by omega))) ?_)
    refine WL.want rfl (WL1.give rfl (g_move rfl (.mk (v := .int _ _) rfl rfl)) ?_)
    refine WL.nil ?_
    refine ⟨i + 1, (by repeat (first | exact trivial | refine ⟨rfl, ?_⟩)), ?_, by omega, by omega⟩
    rw [hsp]
    · exact Imp.pick (by repeat (first | exact .head | apply Take.tail)) (Imp.nil _)
    · omega
    · rfl
  · obtain rfl : i = l.length := by omega
    obtain ⟨D, hD⟩ : ∃ D, D = datP (ps.take n) l l.length := ⟨_, rfl⟩
    rw [← hD] at hap hdl ⊢
    obtain ⟨qs, hqs⟩ : ∃ qs, qs = D ++ enc D := ⟨_, rfl⟩
    have hcm : ∀ (v : Value) (w' : World), Sl w' 8 v n (kvs D) → Calls Try.prog 37 #[v] w' fun e w2 => ∃ v' M, e = .returned v' ∧ H w' M w2 ∧ ∃ A c, v' = .slice A ps.length c ∧ M = [vec A ps.length c 38 8 (kvs qs)] := fun v w' h => by
      have := complete_n v D w' (by rw [hdl]; exact h) (by omega) (by omega)
      rwa [hdl, ← hqs, ← hn] at this
    rw [← hqs] at hap
    rw [hap]
    have hql : qs.length = ps.length := by
      have : (enc D).length = 3 := by simp [enc]
      rw [hqs, List.length_append, this, hdl, hn]
    clear hqs hkl hcl hch hck
    (refine WC.seq ?_; intro K hK)
    refine WC.region rfl ?_
    refine WL.want rfl (WL1.give rfl (g_lt rfl (.mk rfl rfl) (.mk rfl rfl) (decide_eq_false (by omega))) ?_)
    refine WL.nil ?_
    (refine hK _ _ ?_; clear hK)
    (refine WC.seq ?_; intro K hK)
    refine WC.cond_false (.mk rfl rfl) ?_
    refine WC.exit ?_
    (clear hK; refine hK _ _ ?_; clear hK)
    (refine WC.seq ?_; intro K hK)
    refine WC.region rfl ?_
    refine WL.want rfl (WL1.give rfl (g_move rfl (.mk (v := .slice _ _ _) rfl rfl)) ?_)
    (refine WL.want rfl (WL1.callN rfl rfl rfl (.cons (.mk (v := .slice _ _ _) rfl rfl) .nil) (fun w hw => hcm _ w (Sl.of_vec hw (by repeat (first | exact .head _ | apply List.Mem.tail)))) ?_); rintro _ _ ⟨Aq, cq, rfl, rfl⟩)
    refine WL.want rfl (WL1.give rfl (g_assign rfl (.mk (v := .slice _ _ _) rfl rfl)) ?_)
    refine WL.nil ?_
    (refine hK _ _ ?_; clear hK)
    (refine WC.seq ?_; intro K hK)
    refine WC.region rfl ?_
    refine WL.want rfl (WL1.give rfl (g_assign rfl (.mk (v := .slice _ _ _) rfl rfl)) ?_)
    refine WL.nil ?_
    (refine hK _ _ ?_; clear hK)
    (refine WC.seq ?_; intro K hK)
    (refine WC.seq ?_; intro K hK)
    refine WC.region rfl ?_
    refine WL.want rfl (WL1.give rfl (g_move rfl (.mk (v := .slice _ _ _) rfl rfl)) ?_)
    refine WL.want rfl (WL1.give rfl (g_len rfl (.mk rfl rfl) rfl) ?_)
    refine WL.want rfl (WL1.give rfl (g_move rfl (.mk (v := .int _ _) rfl rfl)) ?_)
    refine WL.nil ?_
    (refine hK _ _ ?_; clear hK)
    refine WC.block ?_
    refine WC.nilvec 3 1 ?_
    refine WC.loopF3 (fun (j : Nat) (F : Option Addr) (fc : Nat) => [(47, iv j), (46, iv ps.length), (11, .slice Aq ps.length cq), (12, .slice F (numL (difP qs ps) j).length fc), (0, .slice A ps.length c)]) (fun j F fc => [vec F (numL (difP qs ps) j).length fc 3 1 (ldv (numL (difP qs ps) j)), vec Aq ps.length cq 38 8 (kvs qs)]) (fun j _ _ => j ≤ ps.length) (fun j _ _ => ps.length - j) 0 none 0 (by repeat (first | exact trivial | refine ⟨rfl, ?_⟩)) (Imp.pick (A := vec none 0 0 3 1 []) (by repeat (first | exact .head | apply Take.tail)) (Imp.pick (by repeat (first | exact .head | apply Take.tail)) (Imp.nil _))) (by omega) ?_
    intro j F fc V hj
    have hle := numL_le (difP qs ps) j
    obtain ⟨g, hgg⟩ : ∃ g, g = numL (difP qs ps) j := ⟨_, rfl⟩
    rw [← hgg] at hle ⊢
    by_cases hlt2 : j < ps.length
    · have ga : ∀ t u, (nth qs j).cells[t]? = some u → (kvs qs)[j * 8 + t]? = some u := fun t u h => flat_row blk8 (by omega) t u h
      have gb : ∀ t u, (nth ps j).cells[t]? = some u → (kvs ps)[j * 8 + t]? = some u := fun t u h => flat_row blk8 (by omega) t u h
      by_cases hne : nth qs j = nth ps j
      · have E := blk_eq hne
        have hst : numL (difP qs ps) (j + 1) = g := by rw [numL, show difP qs ps j = false from decide_eq_false fun h => h hne, ← hgg]; rfl
        (refine WC.seq ?_; intro K hK)
        refine WC.region rfl ?_
        refine WL.want rfl (WL1.give rfl (g_lt rfl (.mk rfl rfl) (.mk rfl rfl) (decide_eq_true (by omega))) ?_)
        refine WL.nil ?_
        (refine hK _ _ ?_; clear hK)
        (refine WC.seq ?_; intro K hK)
        refine WC.cond_true (.mk rfl rfl) ?_
        refine WC.skip ?_
        (refine hK _ _ ?_; clear hK)
        (refine WC.seq ?_; intro K hK)
        refine WC.block ?_
        (refine WC.seq ?_; intro K hK)
        refine WC.region rfl ?_
        refine WL.want rfl (WL1.give rfl (g_move rfl (.mk (v := .int _ _) rfl rfl)) ?_)
        refine WL.want rfl (WL1.give rfl (g_assign rfl (.mk (v := .int _ _) rfl rfl)) ?_)
        refine WL.nil ?_
        (refine hK _ _ ?_; clear hK)
        (refine WC.seq ?_; intro K hK)
        refine WC.quiet rfl (by kernel_rfl) (by decide +kernel) ?_
        refine WQ.want rfl (WQ1.give rfl (g_move rfl (.mk (v := .slice _ _ _) rfl rfl)) ?_)
        refine WQ.want rfl (WQ1.give rfl (g_move rfl (.mk (v := .int _ _) rfl rfl)) ?_)
        refine WQ.want rfl (WQ1.give rfl (g_indexAddr (sz := 8) rfl (.mk rfl rfl) (.mk rfl rfl) rfl rfl rfl (by omega) (fun w hw => vec_some hw (.tail _ (.head _)) (by omega))) ?_)
        refine WQ.want rfl (WQ1.give rfl (g_loadA rfl (.mk rfl rfl) rfl (sz8 _) (rdr_vec (by repeat (first | exact .head _ | apply List.Mem.tail)) (by omega) ga)) ?_)
        refine WQ.want rfl (WQ1.give rfl (g_move rfl (.mk (v := .slice _ _ _) rfl rfl)) ?_)
        refine WQ.want rfl (WQ1.give rfl (g_move rfl (.mk (v := .int _ _) rfl rfl)) ?_)
        refine WQ.want rfl (WQ1.give rfl (g_indexAddr (sz := 8) rfl (.mk rfl rfl) (.mk rfl rfl) rfl rfl rfl (by omega) (fun _ _ => sl_some hs (by omega))) ?_)
        refine WQ.want rfl (WQ1.give rfl (g_loadA rfl (.mk rfl rfl) rfl (sz8 _) (rdr_sl hs (by omega) gb)) ?_)
        refine WQ.want rfl (WQ1.give rfl (g_ane (by kernel_rfl) rfl (.mk rfl rfl) (.mk rfl rfl) E) ?_)
        refine WQ.nil ?_
        (refine hK _ _ ?_; clear hK)
        refine WC.cond_false (.mk rfl rfl) ?_
        refine WC.skip ?_
        (refine hK _ _ ?_; clear hK)
        refine WC.region rfl ?_
        refine WL.want rfl (WL1.give rfl (g_add rfl (.mk rfl rfl) (.mk rfl rfl) (IntWalk.i64_in _ (by omega))) ?_)
        refine WL.want rfl (WL1.give rfl (g_move rfl (.mk (v := .int _ _) rfl rfl)) ?_)
        refine WL.nil ?_
        exact ⟨j + 1, F, fc, by rw [hst]; exact (by repeat (first | exact trivial | refine ⟨rfl, ?_⟩)), by rw [hst]; exact Imp.pick (by repeat (first | exact .head | apply Take.tail)) (Imp.pick (by repeat (first | exact .head | apply Take.tail)) (Imp.nil _)), by omega, by omega⟩
      · have E := blk_ne hne
        have hst : numL (difP qs ps) (j + 1) = g ++ [j] := by rw [numL, show difP qs ps j = true from decide_eq_true hne, ← hgg]; rfl
        have hl1 : (g ++ [j]).length = g.length + 1 := by rw [List.length_append]; rfl
        (refine WC.seq ?_; intro K hK)
        refine WC.region rfl ?_
        refine WL.want rfl (WL1.give rfl (g_lt rfl (.mk rfl rfl) (.mk rfl rfl) (decide_eq_true (by omega))) ?_)
        refine WL.nil ?_
        (refine hK _ _ ?_; clear hK)
        (refine WC.seq ?_; intro K hK)
        refine WC.cond_true (.mk rfl rfl) ?_
        refine WC.skip ?_
        (refine hK _ _ ?_; clear hK)
        (refine WC.seq ?_; intro K hK)
        refine WC.block ?_
        (refine WC.seq ?_; intro K hK)
        refine WC.region rfl ?_
        refine WL.want rfl (WL1.give rfl (g_move rfl (.mk (v := .int _ _) rfl rfl)) ?_)
        refine WL.want rfl (WL1.give rfl (g_assign rfl (.mk (v := .int _ _) rfl rfl)) ?_)
        refine WL.nil ?_
        (refine hK _ _ ?_; clear hK)
        (refine WC.seq ?_; intro K hK)
        refine WC.quiet rfl (by kernel_rfl) (by decide +kernel) ?_
        refine WQ.want rfl (WQ1.give rfl (g_move rfl (.mk (v := .slice _ _ _) rfl rfl)) ?_)
        refine WQ.want rfl (WQ1.give rfl (g_move rfl (.mk (v := .int _ _) rfl rfl)) ?_)
        refine WQ.want rfl (WQ1.give rfl (g_indexAddr (sz := 8) rfl (.mk rfl rfl) (.mk rfl rfl) rfl rfl rfl (by omega) (fun w hw => vec_some hw (.tail _ (.head _)) (by omega))) ?_)
        refine WQ.want rfl (WQ1.give rfl (g_loadA rfl (.mk rfl rfl) rfl (sz8 _) (rdr_vec (by repeat (first | exact .head _ | apply List.Mem.tail)) (by omega) ga)) ?_)
        refine WQ.want rfl (WQ1.give rfl (g_move rfl (.mk (v := .slice _ _ _) rfl rfl)) ?_)
        refine WQ.want rfl (WQ1.give rfl (g_move rfl (.mk (v := .int _ _) rfl rfl)) ?_)
        refine WQ.want rfl (WQ1.give rfl (g_indexAddr (sz := 8) rfl (.mk rfl rfl) (.mk rfl rfl) rfl rfl rfl (by omega) (fun _ _ => sl_some hs (by omega))) ?_)
        refine WQ.want rfl (WQ1.give rfl (g_loadA rfl (.mk rfl rfl) rfl (sz8 _) (rdr_sl hs (by omega) gb)) ?_)
        refine WQ.want rfl (WQ1.give rfl (g_ane (by kernel_rfl) rfl (.mk rfl rfl) (.mk rfl rfl) E) ?_)
        refine WQ.nil ?_
        (refine hK _ _ ?_; clear hK)
        refine WC.cond_true (.mk rfl rfl) ?_
        refine WC.region rfl ?_
        refine WL.want rfl (WL1.give rfl (g_move rfl (.mk (v := .slice _ _ _) rfl rfl)) ?_)
        refine WL.want rfl (WL1.give rfl (g_move rfl (.mk (v := .int _ _) rfl rfl)) ?_)
        refine WL.want rfl (WL1.lit (cs := [_]) elI rfl rfl rfl (.cons (.mk (v := .int _ _) rfl rfl) .nil) rfl (by first | (simp [Value.cells]; done) | fail) rfl rfl (fun b61 => ?_))
        refine WL.want rfl (WL1.append elI rfl rfl (.mk rfl rfl) (.mk rfl rfl) (.tail (.head)) (fun w hw => Sl.of_vec hw (.head _)) (all1 rfl) (by unfold maxLen; omega) (by omega) (fun A62 c62 => ?_))
        refine WL.want rfl (WL1.give rfl (g_assign rfl (.mk (v := .slice _ _ _) rfl rfl)) ?_)
        refine WL.nil ?_
        (refine hK _ _ ?_; clear hK)
        refine WC.region rfl ?_
        refine WL.want rfl (WL1.give rfl (g_add rfl (.mk rfl rfl) (.mk rfl rfl) (IntWalk.i64_in _ (by omega))) ?_)
        refine WL.want rfl (WL1.give rfl (g_move rfl (.mk (v := .int _ _) rfl rfl)) ?_)
        refine WL.nil ?_
        exact ⟨j + 1, A62, c62, by rw [hst, hl1]; exact (by repeat (first | exact trivial | refine ⟨rfl, ?_⟩)), by rw [hst, hl1, ← ldv_snoc]; exact Imp.pick (by repeat (first | exact .head | apply Take.tail)) (Imp.pick (by repeat (first | exact .head | apply Take.tail)) (Imp.nil _)), by omega, by omega⟩
    · obtain rfl : j = ps.length := by omega
      (refine WC.seq ?_; intro K hK)
      refine WC.region rfl ?_
      refine WL.want rfl (WL1.give rfl (g_lt rfl (.mk rfl rfl) (.mk rfl rfl) (decide_eq_false (by omega))) ?_)
      refine WL.nil ?_
      (refine hK _ _ ?_; clear hK)
      (refine WC.seq ?_; intro K hK)
      refine WC.cond_false (.mk rfl rfl) ?_
      refine WC.exit ?_
      (clear hK; refine hK _ _ ?_; clear hK)
      (refine WC.seq ?_; intro K hK)
      refine WC.region rfl ?_
      refine WL.want rfl (WL1.give rfl (g_move rfl (.mk (v := .slice _ _ _) rfl rfl)) ?_)
      refine WL.want rfl (WL1.give rfl (g_move rfl (.mk (v := .slice _ _ _) rfl rfl)) ?_)
      refine WL.want rfl (WL1.give rfl (g_assign rfl (.mk (v := .slice _ _ _) rfl rfl)) ?_)
      refine WL.want rfl (WL1.give rfl (g_assign rfl (.mk (v := .slice _ _ _) rfl rfl)) ?_)
      refine WL.want rfl (WL1.give rfl (g_assign rfl (.mk (v := .int _ _) rfl rfl)) ?_)
      refine WL.nil ?_
      (refine hK _ _ ?_; clear hK)
      refine WC.ret ?_
      exact fun w' hw' => ⟨_, [vec Aq ps.length cq 38 8 (kvs qs), vec F g.length fc 3 1 (ldv g)], rfl, Imp.h (Imp.pick (by repeat (first | exact .head | apply Take.tail)) (Imp.pick (by repeat (first | exact .head | apply Take.tail)) (Imp.nil _))) hw', Aq, cq, F, fc, by rw [hap, ← hgg]; rfl, by rw [hap, ← hgg]⟩
end Go.Proofs.Ytnkbnponpknokaa
namespace Go.Proofs.Ytnkbnponpknokaa
open Go.RowKit
attribute [local irreducible] Calls
set_option maxRecDepth 20000 in
theorem elC : Elem Try.prog 29 70 (.agg (iv 0 :: z8).toArray) 9 16 := ⟨rfl, rfl, rfl, by omega⟩
def gn (n : Nat) (h : n < 256 := by omega) : G := ⟨n, h⟩
/-- A block with one byte. -/
def lb (x : G) : Blk := ⟨[x, 0, 0, 0, 0, 0, 0, 0], rfl⟩
theorem zeros_made (m : Nat) : (madeCells (Value.agg z8.toArray).cells (m * 8)).toList = kvs (List.replicate m 0) := by
  have key : ∀ m, (List.range (m * 8)).map (fun i => z8.toArray[i % 8]!) = kvs (List.replicate m 0) := fun m => by
    induction m with
    | zero => rfl
    | succ m ih =>
      rw [Nat.succ_mul, List.range_add, List.map_append, ih, List.replicate_succ', ← kvs_app]
      congr 1
      rw [List.map_map]
      refine (List.map_congr_left (g := fun x => z8.toArray[x % 8]!) fun x _ => ?_).trans rfl
      show z8.toArray[(m * 8 + x) % 8]! = _
      rw [Nat.mul_add_mod_self_right]
  rw [made_cells]
  exact key m
set_option maxRecDepth 20000 in
set_option maxHeartbeats 1000000 in
theorem zero_n (m : Nat) (w : World) (h1 : 4 ≤ m) (h2 : m ≤ 16) : Calls Try.prog 17 #[iv m] w fun e w' => ∃ v' M, e = .returned v' ∧ H w M w' ∧ ∃ A c, v' = .slice A m c ∧ M = [vec A m c 38 8 (kvs (List.replicate m 0))] := by
  have hval : ∀ w', Calls Try.prog 41 #[iv m] w' fun e w2 => e = .returned (.bool true) ∧ Below w'.heap.size w' w2 := fun w' => by
    have := valid_i m w'
    rwa [decide_eq_true (by omega)] at this
  refine calls_wc (args := [iv m]) [2] [] Try.func17 rfl Try.ntmps17 rfl rfl rfl rfl (H.refl _) ?_
  (refine WC.seq ?_; intro K hK)
  refine WC.region rfl ?_
  refine WL.want rfl (WL1.give rfl (g_assign rfl (.mk (v := .slice _ _ _) rfl rfl)) ?_)
  refine WL.nil ?_
  (refine hK _ _ ?_; clear hK)
  (refine WC.seq ?_; intro K hK)
  (refine WC.seq ?_; intro K hK)
  refine WC.region rfl ?_
  refine WL.want rfl (WL1.give rfl (g_move rfl (.mk (v := .int _ _) rfl rfl)) ?_)
  refine WL.want rfl (WL1.callP rfl rfl rfl (.cons (.mk (v := .int _ _) rfl rfl) .nil) (fun w hw => hval w) ?_)
  refine WL.want rfl (WL1.give rfl (g_notT rfl (.mk rfl rfl)) ?_)
  refine WL.nil ?_
  (refine hK _ _ ?_; clear hK)
  refine WC.cond_false (.mk rfl rfl) ?_
  refine WC.skip ?_
  (refine hK _ _ ?_; clear hK)
  (refine WC.seq ?_; intro K hK)
  refine WC.region rfl ?_
  refine WL.want rfl (WL1.give rfl (g_move rfl (.mk (v := .int _ _) rfl rfl)) ?_)
  refine WL.want rfl (WL1.make elK rfl rfl (.mk rfl rfl) (.mk rfl rfl) rfl rfl (by omega) (by unfold maxLen; omega) (fun b7 => ?_))
  refine WL.want rfl (WL1.give rfl (g_assign rfl (.mk (v := .slice _ _ _) rfl rfl)) ?_)
  refine WL.nil ?_
  (refine hK _ _ ?_; clear hK)
  refine WC.ret ?_
  exact fun w' hw' => ⟨_, _, rfl, hw', _, _, rfl, by rw [zeros_made]⟩
set_option maxRecDepth 20000 in
set_option maxHeartbeats 1000000 in
theorem zero_bad (m : Int) (w : World) (h : ¬ (4 ≤ m ∧ m ≤ 16)) : Calls Try.prog 17 #[iv m] w fun e w' => e = .returned (.slice none 0 0) ∧ Below w.heap.size w w' := by
  have hval := fun w' => valid_i m w'
  rw [decide_eq_false h] at hval
  refine calls_wc (args := [iv m]) [2] [] Try.func17 rfl Try.ntmps17 rfl rfl rfl rfl (H.refl _) ?_
  (refine WC.seq ?_; intro K hK)
  refine WC.region rfl ?_
  refine WL.want rfl (WL1.give rfl (g_assign rfl (.mk (v := .slice _ _ _) rfl rfl)) ?_)
  refine WL.nil ?_
  (refine hK _ _ ?_; clear hK)
  (refine WC.seq ?_; intro K hK)
  (refine WC.seq ?_; intro K hK)
  refine WC.region rfl ?_
  refine WL.want rfl (WL1.give rfl (g_move rfl (.mk (v := .int _ _) rfl rfl)) ?_)
  refine WL.want rfl (WL1.callP rfl rfl rfl (.cons (.mk (v := .int _ _) rfl rfl) .nil) (fun w hw => hval w) ?_)
  refine WL.want rfl (WL1.give rfl (g_notF rfl (.mk rfl rfl)) ?_)
  refine WL.nil ?_
  (refine hK _ _ ?_; clear hK)
  refine WC.cond_true (.mk rfl rfl) ?_
  (refine WC.seq ?_; intro K hK)
  refine WC.region rfl ?_
  refine WL.want rfl (WL1.give rfl (g_assign rfl (.mk (v := .slice _ _ _) rfl rfl)) ?_)
  refine WL.nil ?_
  (refine hK _ _ ?_; clear hK)
  refine WC.ret ?_
  exact fun w' hw' => ⟨rfl, hw'.1⟩
set_option maxRecDepth 20000 in
set_option maxHeartbeats 1000000 in
theorem sameints_e (v1 v2 : Value) (a b : List Int) (w : World) (h1 : Sl w 1 v1 a.length (ivs a)) (h2 : Sl w 1 v2 b.length (ivs b)) :
    Calls Try.prog 16 #[v1, v2] w fun e w' => e = .returned (.bool (decide (a = b))) ∧ Below w.heap.size w w' := by
  obtain ⟨A, c, rfl, hc, hm, hs⟩ := h1.open_
  obtain ⟨A2, c2, rfl, hc2, hm2, hs2⟩ := h2.open_
  unfold maxLen at hm
  by_cases hl : a.length = b.length
  · refine calls_wc (args := [.slice A a.length c, .slice A2 b.length c2]) [4] [] Try.func16 rfl Try.ntmps16 rfl rfl rfl rfl (H.refl _) ?_
    (refine WC.seq ?_; intro K hK)
    refine WC.region rfl ?_
    refine WL.want rfl (WL1.give rfl (g_assign rfl (.mk (v := .bool _) rfl rfl)) ?_)
    refine WL.nil ?_
    (refine hK _ _ ?_; clear hK)
    (refine WC.seq ?_; intro K hK)
    (refine WC.seq ?_; intro K hK)
    refine WC.region rfl ?_
    refine WL.want rfl (WL1.give rfl (g_move rfl (.mk (v := .slice _ _ _) rfl rfl)) ?_)
    refine WL.want rfl (WL1.give rfl (g_len rfl (.mk rfl rfl) rfl) ?_)
    refine WL.want rfl (WL1.give rfl (g_move rfl (.mk (v := .slice _ _ _) rfl rfl)) ?_)
    refine WL.want rfl (WL1.give rfl (g_len rfl (.mk rfl rfl) rfl) ?_)
    refine WL.want rfl (WL1.give rfl (g_ne rfl (.mk rfl rfl) (.mk rfl rfl) (decide_eq_false (by omega))) ?_)
    refine WL.nil ?_
    (refine hK _ _ ?_; clear hK)
    refine WC.cond_false (.mk rfl rfl) ?_
    refine WC.skip ?_
    (refine hK _ _ ?_; clear hK)
    (refine WC.seq ?_; intro K hK)
    (refine WC.seq ?_; intro K hK)
    refine WC.region rfl ?_
    refine WL.want rfl (WL1.give rfl (g_assign rfl (.mk (v := .int _ _) rfl rfl)) ?_)
    refine WL.nil ?_
    (refine hK _ _ ?_; clear hK)
    refine WC.block ?_
    refine WC.loopF (fun k : Nat => [(5, iv k), (0, .slice A a.length c), (1, .slice A2 b.length c2)]) (fun _ => []) (fun k => k ≤ a.length ∧ Agr a b k) (fun k => a.length - k) 0 (by repeat (first | exact trivial | refine ⟨rfl, ?_⟩)) (Imp.nil _) ⟨by omega, .zero _ _⟩ ?_
    rintro k U ⟨hk, hA⟩
    by_cases hlt : k < a.length
    · have g1 := ivs_get (l := a) (k := k) hlt
      have g2 := ivs_get (l := b) (k := k) (by omega)
      by_cases he : nth a k = nth b k
      · (refine WC.seq ?_; intro K hK)
        (refine WC.seq ?_; intro K hK)
        refine WC.region rfl ?_
        refine WL.want rfl (WL1.give rfl (g_move rfl (.mk (v := .int _ _) rfl rfl)) ?_)
        refine WL.want rfl (WL1.give rfl (g_move rfl (.mk (v := .slice _ _ _) rfl rfl)) ?_)
        refine WL.want rfl (WL1.give rfl (g_len rfl (.mk rfl rfl) rfl) ?_)
        refine WL.want rfl (WL1.give rfl (g_lt rfl (.mk rfl rfl) (.mk rfl rfl) (decide_eq_true (by omega))) ?_)
        refine WL.nil ?_
        (refine hK _ _ ?_; clear hK)
        refine WC.cond_true (.mk rfl rfl) ?_
        refine WC.skip ?_
        (refine hK _ _ ?_; clear hK)
        (refine WC.seq ?_; intro K hK)
        refine WC.block ?_
        (refine WC.seq ?_; intro K hK)
        refine WC.quiet rfl (by kernel_rfl) (by decide +kernel) ?_
        refine WQ.want rfl (WQ1.give rfl (g_move rfl (.mk (v := .slice _ _ _) rfl rfl)) ?_)
        refine WQ.want rfl (WQ1.give rfl (g_move rfl (.mk (v := .int _ _) rfl rfl)) ?_)
        refine WQ.want rfl (WQ1.give rfl (g_indexAddr (sz := 1) rfl (.mk rfl rfl) (.mk rfl rfl) rfl rfl rfl (by omega) (fun _ _ => sl_some hs (by omega))) ?_)
        refine WQ.want rfl (WQ1.give rfl (g_load rfl (.mk rfl rfl) rfl (rd_sl hs g1)) ?_)
        refine WQ.want rfl (WQ1.give rfl (g_move rfl (.mk (v := .slice _ _ _) rfl rfl)) ?_)
        refine WQ.want rfl (WQ1.give rfl (g_move rfl (.mk (v := .int _ _) rfl rfl)) ?_)
        refine WQ.want rfl (WQ1.give rfl (g_indexAddr (sz := 1) rfl (.mk rfl rfl) (.mk rfl rfl) rfl rfl rfl (by omega) (fun _ _ => sl_some hs2 (by omega))) ?_)
        refine WQ.want rfl (WQ1.give rfl (g_load rfl (.mk rfl rfl) rfl (rd_sl hs2 g2)) ?_)
        refine WQ.want rfl (WQ1.give rfl (g_ne rfl (.mk rfl rfl) (.mk rfl rfl) (decide_eq_false (by omega))) ?_)
        refine WQ.nil ?_
        (refine hK _ _ ?_; clear hK)
        refine WC.cond_false (.mk rfl rfl) ?_
        refine WC.skip ?_
        (refine hK _ _ ?_; clear hK)
        refine WC.region rfl ?_
        refine WL.want rfl (WL1.give rfl (g_move rfl (.mk (v := .int _ _) rfl rfl)) ?_)
        refine WL.want rfl (WL1.give rfl (g_add rfl (.mk rfl rfl) (.mk rfl rfl) (IntWalk.i64_in _ (by omega))) ?_)
        refine WL.want rfl (WL1.give rfl (g_assign rfl (.mk (v := .int _ _) rfl rfl)) ?_)
        refine WL.nil ?_
        exact ⟨k + 1, (by repeat (first | exact trivial | refine ⟨rfl, ?_⟩)), .refl _, ⟨by omega, hA.succ he⟩, by omega⟩
      · (refine WC.seq ?_; intro K hK)
        (refine WC.seq ?_; intro K hK)
        refine WC.region rfl ?_
        refine WL.want rfl (WL1.give rfl (g_move rfl (.mk (v := .int _ _) rfl rfl)) ?_)
        refine WL.want rfl (WL1.give rfl (g_move rfl (.mk (v := .slice _ _ _) rfl rfl)) ?_)
        refine WL.want rfl (WL1.give rfl (g_len rfl (.mk rfl rfl) rfl) ?_)
        refine WL.want rfl (WL1.give rfl (g_lt rfl (.mk rfl rfl) (.mk rfl rfl) (decide_eq_true (by omega))) ?_)
        refine WL.nil ?_
        (refine hK _ _ ?_; clear hK)
        refine WC.cond_true (.mk rfl rfl) ?_
        refine WC.skip ?_
        (refine hK _ _ ?_; clear hK)
        (refine WC.seq ?_; intro K hK)
        refine WC.block ?_
        (refine WC.seq ?_; intro K hK)
        refine WC.quiet rfl (by kernel_rfl) (by decide +kernel) ?_
        refine WQ.want rfl (WQ1.give rfl (g_move rfl (.mk (v := .slice _ _ _) rfl rfl)) ?_)
        refine WQ.want rfl (WQ1.give rfl (g_move rfl (.mk (v := .int _ _) rfl rfl)) ?_)
        refine WQ.want rfl (WQ1.give rfl (g_indexAddr (sz := 1) rfl (.mk rfl rfl) (.mk rfl rfl) rfl rfl rfl (by omega) (fun _ _ => sl_some hs (by omega))) ?_)
        refine WQ.want rfl (WQ1.give rfl (g_load rfl (.mk rfl rfl) rfl (rd_sl hs g1)) ?_)
        refine WQ.want rfl (WQ1.give rfl (g_move rfl (.mk (v := .slice _ _ _) rfl rfl)) ?_)
        refine WQ.want rfl (WQ1.give rfl (g_move rfl (.mk (v := .int _ _) rfl rfl)) ?_)
        refine WQ.want rfl (WQ1.give rfl (g_indexAddr (sz := 1) rfl (.mk rfl rfl) (.mk rfl rfl) rfl rfl rfl (by omega) (fun _ _ => sl_some hs2 (by omega))) ?_)
        refine WQ.want rfl (WQ1.give rfl (g_load rfl (.mk rfl rfl) rfl (rd_sl hs2 g2)) ?_)
        refine WQ.want rfl (WQ1.give rfl (g_ne rfl (.mk rfl rfl) (.mk rfl rfl) (decide_eq_true (by omega))) ?_)
        refine WQ.nil ?_
        (refine hK _ _ ?_; clear hK)
        refine WC.cond_true (.mk rfl rfl) ?_
        (refine WC.seq ?_; intro K hK)
        refine WC.region rfl ?_
        refine WL.want rfl (WL1.give rfl (g_assign rfl (.mk (v := .bool _) rfl rfl)) ?_)
        refine WL.nil ?_
        (refine hK _ _ ?_; clear hK)
        refine WC.ret ?_
        exact fun w' hw' => ⟨by rw [decide_eq_false (fun h => he (by rw [h]))]; rfl, hw'.1⟩
    · obtain rfl : k = a.length := by omega
      (refine WC.seq ?_; intro K hK)
      (refine WC.seq ?_; intro K hK)
      refine WC.region rfl ?_
      refine WL.want rfl (WL1.give rfl (g_move rfl (.mk (v := .int _ _) rfl rfl)) ?_)
      refine WL.want rfl (WL1.give rfl (g_move rfl (.mk (v := .slice _ _ _) rfl rfl)) ?_)
      refine WL.want rfl (WL1.give rfl (g_len rfl (.mk rfl rfl) rfl) ?_)
      refine WL.want rfl (WL1.give rfl (g_lt rfl (.mk rfl rfl) (.mk rfl rfl) (decide_eq_false (by omega))) ?_)
      refine WL.nil ?_
      (refine hK _ _ ?_; clear hK)
      refine WC.cond_false (.mk rfl rfl) ?_
      refine WC.exit ?_
      (clear hK; refine hK _ _ ?_; clear hK)
      (refine WC.seq ?_; intro K hK)
      refine WC.region rfl ?_
      refine WL.want rfl (WL1.give rfl (g_assign rfl (.mk (v := .bool _) rfl rfl)) ?_)
      refine WL.nil ?_
      (refine hK _ _ ?_; clear hK)
      refine WC.ret ?_
      exact fun w' hw' => ⟨by rw [decide_eq_true (hA.all hl)]; rfl, hw'.1⟩
  · refine calls_wc (args := [.slice A a.length c, .slice A2 b.length c2]) [4] [] Try.func16 rfl Try.ntmps16 rfl rfl rfl rfl (H.refl _) ?_
    (refine WC.seq ?_; intro K hK)
    refine WC.region rfl ?_
    refine WL.want rfl (WL1.give rfl (g_assign rfl (.mk (v := .bool _) rfl rfl)) ?_)
    refine WL.nil ?_
    (refine hK _ _ ?_; clear hK)
    (refine WC.seq ?_; intro K hK)
    (refine WC.seq ?_; intro K hK)
    refine WC.region rfl ?_
    refine WL.want rfl (WL1.give rfl (g_move rfl (.mk (v := .slice _ _ _) rfl rfl)) ?_)
    refine WL.want rfl (WL1.give rfl (g_len rfl (.mk rfl rfl) rfl) ?_)
    refine WL.want rfl (WL1.give rfl (g_move rfl (.mk (v := .slice _ _ _) rfl rfl)) ?_)
    refine WL.want rfl (WL1.give rfl (g_len rfl (.mk rfl rfl) rfl) ?_)
    refine WL.want rfl (WL1.give rfl (g_ne rfl (.mk rfl rfl) (.mk rfl rfl) (decide_eq_true (by omega))) ?_)
    refine WL.nil ?_
    (refine hK _ _ ?_; clear hK)
    refine WC.cond_true (.mk rfl rfl) ?_
    (refine WC.seq ?_; intro K hK)
    refine WC.region rfl ?_
    refine WL.want rfl (WL1.give rfl (g_assign rfl (.mk (v := .bool _) rfl rfl)) ?_)
    refine WL.nil ?_
    (refine hK _ _ ?_; clear hK)
    refine WC.ret ?_
    exact fun w' hw' => ⟨by rw [decide_eq_false (fun h => hl (by rw [h]))]; rfl, hw'.1⟩
theorem sameints_t {v1 v2 : Value} {a b : List Nat} {n m : Nat} {w : World} (h1 : Sl w 1 v1 n (ldv a)) (h2 : Sl w 1 v2 m (ldv b)) (hn : a.length = n) (hm : b.length = m) (he : a = b) : Calls Try.prog 16 #[v1, v2] w fun e w' => e = .returned (.bool true) ∧ Below w.heap.size w w' := by
  subst hn; subst hm; subst he
  have := sameints_e v1 v2 (a.map fun k : Nat => (k : Int)) (a.map fun k : Nat => (k : Int)) w (by rw [List.length_map, ← ldv_ivs]; exact h1) (by rw [List.length_map, ← ldv_ivs]; exact h2)
  rwa [decide_eq_true rfl] at this
/-- Reads, said otherwise. -/
theorem reads_k {w : World} {A B : Option Addr} {c d N m t : Nat} {zm : Int} {T : List Int} {bs : List Bool} {out : List Nat} (hzm : zm = (m : Int)) (hbl : bs.length = m) (ht : T.length = t) (hN : m = N + 3) (h1 : 1 ≤ N) (h2 : N ≤ 13) (hT : ∀ i, i < T.length → okT m T i) (h0 : 0 < t) (hT2 : t ≤ 1000000)
    (hb3 : (numL (fun i => nth bs i) m).length ≤ 3) (hg : N ≤ (numL (gP bs) m).length) (ho : (o3 N T bs).getD [] = out) (hs : Sl w 1 (.slice A t c) t (ivs T)) (hsb : Sl w 1 (.slice B m d) m (bls bs)) :
    Calls Try.prog 20 #[iv zm, .slice A t c, .slice B m d] w fun e w' => ∃ v' M, e = .returned v' ∧ H w M w' ∧ ∃ A1 c1, v' = .tuple #[.slice A1 out.length c1, iv 0] ∧ M = [vec A1 out.length c1 3 1 (ldv out)] := by
  subst hzm; subst hbl; subst ht; subst ho
  exact reads_n hN h1 h2 hs hsb hT h0 hT2 hb3 hg
theorem apply_k {vp vl : Value} {ps qs : List Blk} {l : List Chg} {n m t k : Nat} {ds : List Nat} {w : World} (hpl : ps.length = m) (hll : l.length = t) (hn : m = n + 3) (h1 : 1 ≤ n) (h2 : n ≤ 13) (ht : t ≤ 1000000) (hg : isGroup ps = true) (ho : okC m l = true) (hq : apL ps l = qs) (hd : numL (difP qs ps) m = ds) (hk : ds.length = k) (hp : Sl w 8 vp m (kvs ps)) (hl : Sl w 9 vl t (cvs l)) :
    Calls Try.prog 12 #[vp, vl] w fun e w' => ∃ v' M, e = .returned v' ∧ H w M w' ∧ ∃ A c F fc, v' = .tuple #[.slice A m c, .slice F k fc, iv 0] ∧ M = [vec A m c 38 8 (kvs qs), vec F k fc 3 1 (ldv ds)] := by
  subst hk; subst hpl; subst hll; subst hq; subst hd
  exact apply_n vp vl ps l n w hp hl hn h1 h2 ht hg ho
theorem bls_made (m : Nat) : (madeCells (Value.bool false).cells (m * 1)).toList = bls (List.replicate m false) := by
  rw [show (Value.bool false).cells = #[.bool false] from rfl, made_one]; simp [bls]
theorem ex_r1 : (o3 5 [0] (List.replicate 8 false)).getD [] = [0, 5, 6, 7] := by decide +kernel
theorem ex_r2 : (o3 5 [1, 3] (List.replicate 8 false)).getD [] = [0, 2, 4] := by decide +kernel
theorem ex_t1 : ∀ i, i < ([0] : List Int).length → okT ((8 : Nat) : Int) [0] i := fun i hi => match i, hi with | 0, _ => ⟨by decide, by decide, .inl rfl⟩
theorem ex_t2 : ∀ i, i < ([1, 3] : List Int).length → okT ((8 : Nat) : Int) [1, 3] i := fun i hi => match i, hi with | 0, _ => ⟨by decide, by decide, .inl rfl⟩ | 1, _ => ⟨by decide, by decide, .inr (by decide)⟩
theorem ex_ap : apL (List.replicate 4 0) [⟨0, lb (gn 7)⟩] = [lb (gn 7), lb (gn 7), lb (gn 7), lb (gn 7)] := by decide +kernel
theorem ex_df : numL (difP [lb (gn 7), lb (gn 7), lb (gn 7), lb (gn 7)] (List.replicate 4 0)) 4 = [0, 1, 2, 3] := by decide +kernel
set_option maxRecDepth 20000 in
set_option maxHeartbeats 4000000 in
theorem awake_e (w : World) : Calls Try.prog 11 #[] w fun e w' => e = .returned (.bool true) ∧ Below w.heap.size w w' := by
  have E := blk_eq (a := lb (gn 7)) (b := lb (gn 7)) rfl
  have g1 : ∀ j u, (lb (gn 7)).cells[j]? = some u → (kvs [lb (gn 7), lb (gn 7), lb (gn 7), lb (gn 7)])[1 * 8 + j]? = some u := fun j u h => flat_row (l := [lb (gn 7), lb (gn 7), lb (gn 7), lb (gn 7)]) (k := 1) blk8 (by decide) j u h
  refine calls_wc (args := []) [0] [] Try.func11 rfl Try.ntmps11 rfl rfl rfl rfl (H.refl _) ?_
  (refine WC.seq ?_; intro K hK)
  refine WC.region rfl ?_
  refine WL.want rfl (WL1.give rfl (g_assign rfl (.mk (v := .bool _) rfl rfl)) ?_)
  refine WL.nil ?_
  (refine hK _ _ ?_; clear hK)
  (refine WC.seq ?_; intro K hK)
  refine WC.region rfl ?_
  refine WL.want rfl (WL1.lit (cs := [_]) elI rfl rfl rfl (.cons (.mk (v := .int _ _) rfl rfl) .nil) rfl (by first | (simp [Value.cells]; done) | fail) rfl rfl (fun b9 => ?_))
  refine WL.want rfl (WL1.make elBo rfl rfl (.mk rfl rfl) (.mk rfl rfl) (Int.toNat_of_nonneg (by omega)).symm (Int.toNat_of_nonneg (by omega)).symm (by omega) (by unfold maxLen; omega) (fun b10 => ?_))
  (refine WL.want rfl (WL1.callN rfl rfl rfl (.cons (.mk (v := .int _ _) rfl rfl) (.cons (.mk (v := .slice _ _ _) rfl rfl) (.cons (.mk (v := .slice _ _ _) rfl rfl) .nil))) (fun w hw => reads_k (m := 8) (N := 5) (out := [0, 5, 6, 7]) rfl rfl rfl rfl (by omega) (by omega) ex_t1 (by omega) (by omega) (by decide) (by decide) ex_r1 (Sl.of_vec hw (.tail _ (.head _))) (Sl.of_vecE hw (.head _) rfl (bls_made 8))) ?_); rintro _ _ ⟨A1, c1, rfl, rfl⟩)
  refine WL.want rfl (WL1.give rfl (g_move rfl (.mk (v := .tuple _) rfl rfl)) ?_)
  refine WL.want rfl (WL1.give rfl (g_extract rfl (.mk rfl rfl) rfl) ?_)
  refine WL.want rfl (WL1.give rfl (g_extract rfl (.mk rfl rfl) rfl) ?_)
  refine WL.want rfl (WL1.give rfl (g_assign rfl (.mk (v := .slice _ _ _) rfl rfl)) ?_)
  refine WL.want rfl (WL1.give rfl (g_assign rfl (.mk (v := .int _ _) rfl rfl)) ?_)
  refine WL.nil ?_
  (refine hK _ _ ?_; clear hK)
  (refine WC.seq ?_; intro K hK)
  refine WC.region rfl ?_
  refine WL.want rfl (WL1.lit (cs := [_, _]) elI rfl rfl rfl (.cons (.mk (v := .int _ _) rfl rfl) (.cons (.mk (v := .int _ _) rfl rfl) .nil)) rfl (by first | (simp [Value.cells]; done) | fail) rfl rfl (fun b15 => ?_))
  refine WL.want rfl (WL1.make elBo rfl rfl (.mk rfl rfl) (.mk rfl rfl) (Int.toNat_of_nonneg (by omega)).symm (Int.toNat_of_nonneg (by omega)).symm (by omega) (by unfold maxLen; omega) (fun b16 => ?_))
  (refine WL.want rfl (WL1.callN rfl rfl rfl (.cons (.mk (v := .int _ _) rfl rfl) (.cons (.mk (v := .slice _ _ _) rfl rfl) (.cons (.mk (v := .slice _ _ _) rfl rfl) .nil))) (fun w hw => reads_k (m := 8) (N := 5) (out := [0, 2, 4]) rfl rfl rfl rfl (by omega) (by omega) ex_t2 (by omega) (by omega) (by decide) (by decide) ex_r2 (Sl.of_vec hw (.tail _ (.head _))) (Sl.of_vecE hw (.head _) rfl (bls_made 8))) ?_); rintro _ _ ⟨A2, c2, rfl, rfl⟩)
  refine WL.want rfl (WL1.give rfl (g_move rfl (.mk (v := .tuple _) rfl rfl)) ?_)
  refine WL.want rfl (WL1.give rfl (g_extract rfl (.mk rfl rfl) rfl) ?_)
  refine WL.want rfl (WL1.give rfl (g_extract rfl (.mk rfl rfl) rfl) ?_)
  refine WL.want rfl (WL1.give rfl (g_assign rfl (.mk (v := .slice _ _ _) rfl rfl)) ?_)
  refine WL.want rfl (WL1.give rfl (g_assign rfl (.mk (v := .int _ _) rfl rfl)) ?_)
  refine WL.nil ?_
  (refine hK _ _ ?_; clear hK)
  (refine WC.seq ?_; intro K hK)
  refine WC.region rfl ?_
  (refine WL.want rfl (WL1.callN rfl rfl rfl (.cons (.mk (v := .int _ _) rfl rfl) .nil) (fun w hw => zero_n 4 w (by omega) (by omega)) ?_); rintro _ _ ⟨A3, c3, rfl, rfl⟩)
  refine WL.want rfl (WL1.give rfl (g_buildArr (cs := [_, _, _, _, _, _, _, _]) rfl rfl rfl rfl rfl (.cons (.mk (v := .int _ _) rfl rfl) .nil) rfl rfl rfl) ?_)
  refine WL.want rfl (WL1.give rfl (g_buildS (us := [(0, [_]), (1, (lb (gn 7)).cells)]) (cs := Chg.cells ⟨0, lb (gn 7)⟩) rfl rfl rfl rfl (.cons (.mk (v := .int _ _) rfl rfl) (.cons (.mk (v := .agg _) rfl rfl) .nil)) rfl (fun p hp => by simp only [List.mem_cons, List.not_mem_nil, or_false] at hp; rcases hp with rfl | rfl <;> exact ⟨_, _, rfl, rfl, by decide⟩) rfl) ?_)
  refine WL.want rfl (WL1.lit elC rfl rfl rfl (.cons (.mk (v := .agg _) rfl rfl) .nil) rfl (by intro v hv; rw [List.mem_singleton] at hv; subst hv; show (Chg.cells _).toArray.size = 9; rw [List.size_toArray, Chg.len]) (List.append_nil _) rfl (fun b24 => ?_))
  (refine WL.want rfl (WL1.callN rfl rfl rfl (.cons (.mk (v := .slice _ _ _) rfl rfl) (.cons (.mk (v := .slice _ _ _) rfl rfl) .nil)) (fun w hw => apply_k (ps := List.replicate 4 0) (l := [⟨0, lb (gn 7)⟩]) (t := 1) (m := 4) (n := 1) (k := 4) rfl rfl rfl (by omega) (by omega) (by omega) (by decide +kernel) (by decide +kernel) ex_ap ex_df rfl (Sl.of_vec hw (.tail _ (.head _))) (Sl.of_vecE hw (.head _) rfl rfl)) ?_); rintro _ _ ⟨A4, c4, F4, f4, rfl, rfl⟩)
  refine WL.want rfl (WL1.give rfl (g_move rfl (.mk (v := .tuple _) rfl rfl)) ?_)
  refine WL.want rfl (WL1.give rfl (g_extract rfl (.mk rfl rfl) rfl) ?_)
  refine WL.want rfl (WL1.give rfl (g_extract rfl (.mk rfl rfl) rfl) ?_)
  refine WL.want rfl (WL1.give rfl (g_extract rfl (.mk rfl rfl) rfl) ?_)
  refine WL.want rfl (WL1.give rfl (g_assign rfl (.mk (v := .slice _ _ _) rfl rfl)) ?_)
  refine WL.want rfl (WL1.give rfl (g_assign rfl (.mk (v := .slice _ _ _) rfl rfl)) ?_)
  refine WL.want rfl (WL1.give rfl (g_assign rfl (.mk (v := .int _ _) rfl rfl)) ?_)
  refine WL.nil ?_
  (refine hK _ _ ?_; clear hK)
  (refine WC.seq ?_; intro K hK)
  refine WC.region rfl ?_
  refine WL.want rfl (WL1.give rfl (g_move rfl (.mk (v := .int _ _) rfl rfl)) ?_)
  refine WL.want rfl (WL1.give rfl (g_eq rfl (.mk rfl rfl) (.mk rfl rfl) (decide_eq_true (by omega))) ?_)
  refine WL.want rfl (WL1.give rfl (g_move rfl (.mk (v := .bool _) rfl rfl)) ?_)
  refine WL.wantG rfl rfl rfl rfl (WL1.give rfl (g_move rfl (.mk (v := .int _ _) rfl rfl)) ?_)
  refine WL.wantG rfl rfl rfl rfl (WL1.give rfl (g_eq rfl (.mk rfl rfl) (.mk rfl rfl) (decide_eq_true (by omega))) ?_)
  refine WL.want rfl (WL1.give rfl (g_pickT rfl (.mk rfl rfl) (.mk (v := .bool _) rfl rfl)) ?_)
  refine WL.want rfl (WL1.give rfl (g_move rfl (.mk (v := .bool _) rfl rfl)) ?_)
  refine WL.wantG rfl rfl rfl rfl (WL1.give rfl (g_move rfl (.mk (v := .int _ _) rfl rfl)) ?_)
  refine WL.wantG rfl rfl rfl rfl (WL1.give rfl (g_eq rfl (.mk rfl rfl) (.mk rfl rfl) (decide_eq_true (by omega))) ?_)
  refine WL.want rfl (WL1.give rfl (g_pickT rfl (.mk rfl rfl) (.mk (v := .bool _) rfl rfl)) ?_)
  refine WL.want rfl (WL1.give rfl (g_move rfl (.mk (v := .bool _) rfl rfl)) ?_)
  refine WL.wantG rfl rfl rfl rfl (WL1.give rfl (g_move rfl (.mk (v := .slice _ _ _) rfl rfl)) ?_)
  refine WL.wantG rfl rfl rfl rfl (WL1.lit (cs := [_, _, _, _]) elI rfl rfl rfl (.cons (.mk (v := .int _ _) rfl rfl) (.cons (.mk (v := .int _ _) rfl rfl) (.cons (.mk (v := .int _ _) rfl rfl) (.cons (.mk (v := .int _ _) rfl rfl) .nil)))) rfl (by first | (simp [Value.cells]; done) | fail) rfl rfl (fun b41 => ?_))
  refine WL.wantG rfl rfl rfl rfl (WL1.callP rfl rfl rfl (.cons (.mk (v := .slice _ _ _) rfl rfl) (.cons (.mk (v := .slice _ _ _) rfl rfl) .nil)) (fun w hw => sameints_t (a := [0, 5, 6, 7]) (b := [0, 5, 6, 7]) (Sl.of_vec hw (by repeat (first | exact .head _ | apply List.Mem.tail))) (Sl.of_vec hw (.head _)) rfl rfl rfl) ?_)
  refine WL.want rfl (WL1.give rfl (g_pickT rfl (.mk rfl rfl) (.mk (v := .bool _) rfl rfl)) ?_)
  refine WL.want rfl (WL1.give rfl (g_move rfl (.mk (v := .bool _) rfl rfl)) ?_)
  refine WL.wantG rfl rfl rfl rfl (WL1.give rfl (g_move rfl (.mk (v := .slice _ _ _) rfl rfl)) ?_)
  refine WL.wantG rfl rfl rfl rfl (WL1.lit (cs := [_, _, _]) elI rfl rfl rfl (.cons (.mk (v := .int _ _) rfl rfl) (.cons (.mk (v := .int _ _) rfl rfl) (.cons (.mk (v := .int _ _) rfl rfl) .nil))) rfl (by first | (simp [Value.cells]; done) | fail) rfl rfl (fun b46 => ?_))
  refine WL.wantG rfl rfl rfl rfl (WL1.callP rfl rfl rfl (.cons (.mk (v := .slice _ _ _) rfl rfl) (.cons (.mk (v := .slice _ _ _) rfl rfl) .nil)) (fun w hw => sameints_t (a := [0, 2, 4]) (b := [0, 2, 4]) (Sl.of_vec hw (by repeat (first | exact .head _ | apply List.Mem.tail))) (Sl.of_vec hw (.head _)) rfl rfl rfl) ?_)
  refine WL.want rfl (WL1.give rfl (g_pickT rfl (.mk rfl rfl) (.mk (v := .bool _) rfl rfl)) ?_)
  refine WL.want rfl (WL1.give rfl (g_move rfl (.mk (v := .bool _) rfl rfl)) ?_)
  refine WL.wantG rfl rfl rfl rfl (WL1.give rfl (g_move rfl (.mk (v := .slice _ _ _) rfl rfl)) ?_)
  refine WL.wantG rfl rfl rfl rfl (WL1.give rfl (g_len rfl (.mk rfl rfl) rfl) ?_)
  refine WL.wantG rfl rfl rfl rfl (WL1.give rfl (g_eq rfl (.mk rfl rfl) (.mk rfl rfl) (decide_eq_true (by omega))) ?_)
  refine WL.want rfl (WL1.give rfl (g_pickT rfl (.mk rfl rfl) (.mk (v := .bool _) rfl rfl)) ?_)
  refine WL.want rfl (WL1.give rfl (g_move rfl (.mk (v := .bool _) rfl rfl)) ?_)
  refine WL.wantG rfl rfl rfl rfl (WL1.give rfl (g_move rfl (.mk (v := .slice _ _ _) rfl rfl)) ?_)
  refine WL.wantG rfl rfl rfl rfl (WL1.give rfl (g_indexAddr (sz := 8) rfl (.mk rfl rfl) (.mk rfl rfl) rfl rfl (show _ = ((1 : Nat) : Int) from rfl) (by omega) (fun w hw => vec_some hw (.tail _ (.tail _ (.head _))) (by omega))) ?_)
  refine WL.wantG rfl rfl rfl rfl (WL1.give rfl (g_loadA rfl (.mk rfl rfl) rfl rfl (rdr_vec (cs := (lb (gn 7)).cells) (by repeat (first | exact .head _ | apply List.Mem.tail)) (by omega) g1)) ?_)
  refine WL.wantG rfl rfl rfl rfl (WL1.give rfl (g_buildArr (cs := [_, _, _, _, _, _, _, _]) rfl rfl rfl rfl rfl (.cons (.mk (v := .int _ _) rfl rfl) .nil) rfl rfl rfl) ?_)
  refine WL.wantG rfl rfl rfl rfl (WL1.give rfl (g_aeq (by kernel_rfl) rfl (.mk rfl rfl) (.mk rfl rfl) E) ?_)
  refine WL.want rfl (WL1.give rfl (g_pickT rfl (.mk rfl rfl) (.mk (v := .bool _) rfl rfl)) ?_)
  refine WL.want rfl (WL1.give rfl (g_move rfl (.mk (v := .bool _) rfl rfl)) ?_)
  refine WL.wantG rfl rfl rfl rfl (WL1.give rfl (g_move rfl (.mk (v := .slice _ _ _) rfl rfl)) ?_)
  refine WL.wantG rfl rfl rfl rfl (WL1.give rfl (g_len rfl (.mk rfl rfl) rfl) ?_)
  refine WL.wantG rfl rfl rfl rfl (WL1.give rfl (g_eq rfl (.mk rfl rfl) (.mk rfl rfl) (decide_eq_true (by omega))) ?_)
  refine WL.want rfl (WL1.give rfl (g_pickT rfl (.mk rfl rfl) (.mk (v := .bool _) rfl rfl)) ?_)
  refine WL.want rfl (WL1.give rfl (g_assign rfl (.mk (v := .bool _) rfl rfl)) ?_)
  refine WL.nil ?_
  (refine hK _ _ ?_; clear hK)
  refine WC.ret ?_
  exact fun w' hw' => ⟨rfl, hw'.1⟩
end Go.Proofs.Ytnkbnponpknokaa
namespace Go.Proofs.Ytnkbnponpknokaa
open Go.RowKit Go.WideShapes Go.ChangeShapes Go.ChangeAt
theorem Lf.chg {cs : List Value} (h : Lf (some .i64 :: blkK) cs) : ∃ x : Chg, cs = x.cells ∧ x.ok := by
  obtain ⟨z, ds, rfl, h1, h2, h3⟩ := h.iv
  obtain ⟨b, rfl⟩ := h3.blk
  exact ⟨⟨z, b⟩, rfl, h1, h2⟩
section
variable {H : Type} {enc : TypeId × Value → H} {W : World}
theorem flat_sing {α : Type} (f : α → Value) (l : List α) : (l.map fun g => [f g]).flatten = l.map f := by
  induction l with
  | nil => rfl
  | cons a l ih => rw [List.map_cons, List.flatten_cons, ih]; rfl
set_option maxRecDepth 20000 in
theorem open_bools {b0 : Nat} {v : Value} {d : DataW H} {p : List MemPlace} (hv : Value.okWide Try.prog W .any b0 41 v) (h : DataW.Trod enc Try.prog W 0 (fun _ => true) true 41 v d p) :
    ∃ l : List Bool, Sl W 1 v l.length (bls l) := by
  obtain ⟨css, hs, hc⟩ := open_sl_flat (sz := 1) (ks := [none]) Try.underlying41 (by kernel_rfl) (by omega) (by kernel_rfl) hv h
  obtain ⟨l, rfl, e, _⟩ := each_flat (enc' := fun b : Bool => [Value.bool b]) (ok := fun _ : Bool => True) (fun c hc => by
    cases hc with
    | bool h => rename_i b _; cases h; exact ⟨b, rfl, trivial⟩) hc
  rw [flat_sing, List.length_map] at hs
  exact ⟨l, hs⟩
set_option maxRecDepth 20000 in
theorem open_changes {b0 : Nat} {v : Value} {d : DataW H} {p : List MemPlace} (hv : Value.okWide Try.prog W .any b0 23 v) (h : DataW.Trod enc Try.prog W 0 (fun _ => true) true 23 v d p) :
    ∃ l : List Chg, Sl W 9 v l.length (cvs l) ∧ ∀ x ∈ l, x.ok := by
  obtain ⟨css, hs, hc⟩ := open_sl_flat (sz := 9) (ks := some .i64 :: blkK) Try.underlying23 (by kernel_rfl) (by omega) (by kernel_rfl) hv h
  obtain ⟨l, rfl, e, hok⟩ := each_flat (fun c hc => hc.chg) hc
  rw [e, List.length_map] at hs
  exact ⟨l, hs, hok⟩
end
end Go.Proofs.Ytnkbnponpknokaa
namespace Go.Proofs.Ytnkbnponpknokaa
open Go.RowKit Go.WideShapes Go.ChangeShapes Go.ChangeAt
section
variable {H : Type} {enc : TypeId × Value → H} {P : Program}
/-- A slice that lies in a cell. -/
theorem open_run {w : World} {sz : Nat} {t e : TypeId} {cs0 : List Value} {fuel : Nat} {x0 : DataW H × List MemPlace} (ht : P.underlying t = some (.slice e)) (hC : P.cellsOf e = sz) (hsz : 0 < sz) (hf : DataW.trod enc P w 0 (fun _ => true) true fuel t cs0 = some x0) :
    ∃ v A n c, cs0 = [v] ∧ v = Value.slice A n c ∧ ∃ css : List (List Value), (∀ cs ∈ css, cs.length = sz) ∧ Sl w sz v css.length css.flatten ∧
      ∀ cs ∈ css, ∃ fuel x, DataW.trod enc P w 0 (fun _ => true) true fuel e cs = some x := by
  rcases Deep.open_slice ht hf with ⟨hcs, _⟩ | ⟨a, len', cap', m, n, D, Pl, hcs, _, hl, hm, hmm, _, hel⟩
  · exact ⟨_, _, _, _, hcs, rfl, [], by simp, Sl.nil w sz, by simp⟩
  · refine ⟨_, _, _, _, hcs, rfl, ?_⟩
    have hmc : m = cap' := by simpa using hmm
    have each : ∀ i, ∃ cs : List Value, i < len' → cs.length = sz ∧ (∀ j, j < sz → w.cell? (a.add (i * sz + j)) = cs[j]?) ∧ ∃ fuel x, DataW.trod enc P w 0 (fun _ => true) true fuel e cs = some x := by
      intro i
      by_cases hi : i < len'
      · obtain ⟨cs', h1, h2⟩ := hel i (by omega)
        rw [hC] at h1
        obtain ⟨_, h4, h5⟩ := World.cells?_some h1
        exact ⟨cs', fun _ => ⟨h4, fun j hj => by rw [← h5 j hj, addAdd], n, _, h2⟩⟩
      · exact ⟨[], fun h => absurd h hi⟩
    obtain ⟨f, hfx⟩ := Classical.axiomOfChoice each
    have hlen : ∀ cs ∈ (List.range len').map f, cs.length = sz := by
      intro cs hcs
      obtain ⟨i, hi, rfl⟩ := List.mem_map.1 hcs
      exact (hfx i (List.mem_range.1 hi)).1
    refine ⟨(List.range len').map f, hlen, ?_, ?_⟩
    · have hnl : ((List.range len').map f).length = len' := by simp
      rw [hnl]
      refine ⟨by rw [flatten_len hlen, hnl], some a, cap', rfl, hl, hm, fun hn => ⟨a, rfl, ?_, ?_⟩⟩
      · obtain ⟨h1, h2, _⟩ := hfx 0 hn
        have h3 := h2 0 hsz
        have h4 : (f 0)[0]? = some ((f 0)[0]'(by omega)) := List.getElem?_eq_getElem (by omega)
        rw [h4] at h3
        have := World.block_lt_of_cell? w _ h3
        rwa [addBlock] at this
      · intro q u hu
        have hq : q < len' * sz := by
          have := (List.getElem?_eq_some_iff.1 hu).1
          rwa [flatten_len hlen, hnl] at this
        have e1 : q = q / sz * sz + q % sz := by rw [Nat.mul_comm]; exact (Nat.div_add_mod q sz).symm
        have hj : q % sz < sz := Nat.mod_lt _ hsz
        have hi : q / sz < len' := Nat.div_lt_of_lt_mul (by rwa [Nat.mul_comm] at hq)
        rw [e1] at hu ⊢
        rw [flatten_get hlen _ _ hj] at hu
        rw [(hfx _ hi).2.1 _ hj]
        simpa [hi] using hu
    · intro cs hcs
      obtain ⟨i, hi, rfl⟩ := List.mem_map.1 hcs
      exact (hfx i (List.mem_range.1 hi)).2.2
end
section
variable {H : Type} {enc : TypeId × Value → H} {W : World}
set_option maxRecDepth 20000 in
theorem blks_of {fuel : Nat} {cs : List Value} {x : DataW H × List MemPlace} (h : DataW.trod enc Try.prog W 0 (fun _ => true) true fuel 22 cs = some x) : ∃ (v : Value) (l : List Blk), cs = [v] ∧ Sl W 8 v l.length (kvs l) := by
  obtain ⟨v, A, n, c, e, ev, css, h1, h2, h3⟩ := open_run (sz := 8) Try.underlying22 (by kernel_rfl) (by omega) h
  obtain ⟨l, rfl, e2, _⟩ := each_flat (ok := fun _ : Blk => True) (fun c hc => by obtain ⟨b, e⟩ := hc.blk; exact ⟨b, e, trivial⟩) fun c hc => by obtain ⟨f, x, hx⟩ := h3 c hc; exact flat_trod (show fltT Try.prog 8 38 = some blkK by kernel_rfl) hx
  rw [e2, List.length_map] at h2
  exact ⟨v, l, e, h2⟩
set_option maxRecDepth 20000 in
theorem open_pair {b0 : Nat} {v : Value} {d : DataW H} {p : List MemPlace} (hv : Value.okWide Try.prog W .any b0 51 v) (h : DataW.Trod enc Try.prog W 0 (fun _ => true) true 51 v d p) :
    ∃ (va vb : Value) (a b : List Blk), v = .agg #[va, vb] ∧ Sl W 8 va a.length (kvs a) ∧ Sl W 8 vb b.length (kvs b) := by
  have hu : Try.prog.underlying 51 = some (.array 2 22) := by kernel_rfl
  obtain ⟨cs, rfl⟩ : ∃ cs : Array Value, v = .agg cs := by
    unfold Value.okWide at hv
    rw [hu] at hv
    obtain ⟨cs, h, _⟩ := hv
    exact ⟨cs, h⟩
  obtain ⟨fuel, hf⟩ := h
  have hf' : DataW.trod enc Try.prog W 0 (fun _ => true) true fuel 51 cs.toList = some (d, p) := hf
  cases fuel with
  | zero => cases hf'
  | succ fuel =>
  obtain ⟨xs, q, _, _, hl, hxl, hi⟩ := DataW.trod_array hu hf'
  have hc : Try.prog.cellsOf 22 = 1 := by kernel_rfl
  have hc2 : Try.prog.cellsOf 51 = 2 := by kernel_rfl
  rw [hc2] at hl
  have h0 := hi 0 (by omega)
  have h1 := hi 1 (by omega)
  rw [List.getElem?_eq_getElem (by omega), hc] at h0 h1
  obtain ⟨va, a, e0, s0⟩ := blks_of h0
  obtain ⟨vb, b, e1, s1⟩ := blks_of h1
  refine ⟨va, vb, a, b, ?_, s0, s1⟩
  have e2 : cs.toList = [va, vb] := by
    match hcs : cs.toList, hl with
    | [u, t], _ =>
      rw [hcs] at e0 e1
      have q0 : u = va := by simpa using e0
      have q1 : t = vb := by simpa using e1
      rw [q0, q1]
  rw [show cs = cs.toList.toArray from rfl, e2]
set_option maxRecDepth 20000 in
theorem open_u64 {b0 : Nat} {v : Value} {d : DataW H} {p : List MemPlace} (hv : Value.okWide Try.prog W .any b0 52 v) (h : DataW.Trod enc Try.prog W 0 (fun _ => true) true 52 v d p) : ∃ n : Int, v = .int .u64 n ∧ (Lit.int .u64 n).wf = true := by
  obtain ⟨n, rfl, _, _, hw⟩ := open_int Try.underlying52 hv h
  exact ⟨n, rfl, hw⟩
end
end Go.Proofs.Ytnkbnponpknokaa
namespace Go.Proofs.Ytnkbnponpknokaa
open Go.RowKit
attribute [local irreducible] Calls
set_option maxRecDepth 20000 in
set_option maxHeartbeats 4000000 in
theorem from_n (v : Value) (l : List Chg) (w : World) (hv : Sl w 9 v l.length (cvs l)) (hl : l.length ≤ 1000000) :
    Calls Try.prog 13 #[v] w fun e w' => ∃ v' M, e = .returned v' ∧ H w M w' ∧ ∃ A c, v' = .slice A l.length c ∧ M = [vec A l.length c 70 9 (cvs l)] := by
  obtain ⟨A, c, rfl, hc, hm, hs⟩ := hv.open_
  refine calls_wc (args := [.slice A l.length c]) [2] [] Try.func13 rfl Try.ntmps13 rfl rfl rfl rfl (H.refl _) ?_
  (refine WC.seq ?_; intro K hK)
  refine WC.region rfl ?_
  refine WL.want rfl (WL1.give rfl (g_assign rfl (.mk (v := .slice _ _ _) rfl rfl)) ?_)
  refine WL.nil ?_
  (refine hK _ _ ?_; clear hK)
  (refine WC.seq ?_; intro K hK)
  refine WC.region rfl ?_
  refine WL.want rfl (WL1.give rfl (g_assign rfl (.mk (v := .slice _ _ _) rfl rfl)) ?_)
  refine WL.nil ?_
  (refine hK _ _ ?_; clear hK)
  (refine WC.seq ?_; intro K hK)
  (refine WC.seq ?_; intro K hK)
  refine WC.region rfl ?_
  refine WL.want rfl (WL1.give rfl (g_move rfl (.mk (v := .slice _ _ _) rfl rfl)) ?_)
  refine WL.want rfl (WL1.give rfl (g_len rfl (.mk rfl rfl) rfl) ?_)
  refine WL.want rfl (WL1.give rfl (g_move rfl (.mk (v := .int _ _) rfl rfl)) ?_)
  refine WL.nil ?_
  (refine hK _ _ ?_; clear hK)
  refine WC.block ?_
  refine WC.nilvec 70 9 ?_
  
  refine WC.loopF3 (fun (i : Nat) (F : Option Addr) (fc : Nat) => [(8, iv i), (7, iv l.length), (6, .slice A l.length c), (3, .slice F i fc)]) (fun i F fc => [vec F i fc 70 9 (cvs (l.take i))]) (fun i _ _ => i ≤ l.length) (fun i _ _ => l.length - i) 0 none 0 (by repeat (first | exact trivial | refine ⟨rfl, ?_⟩)) (Imp.pick (by repeat (first | exact .head | apply Take.tail)) (Imp.nil _)) (by omega) ?_
  intro i F fc U hi
  by_cases hlt : i < l.length
  · have hgd := chg_row (l := l) (k := i) hlt
    have hnx : cvs (l.take i) ++ (nth l i).cells = cvs (l.take (i + 1)) := by
      have : l.take (i + 1) = l.take i ++ [nth l i] := by rw [List.take_add_one, nth_get hlt]; rfl
      rw [this]; unfold cvs; rw [List.flatMap_append]; simp
    obtain ⟨x, hx⟩ : ∃ x, x = nth l i := ⟨_, rfl⟩
    rw [← hx] at hgd hnx
    have gx : ∀ j u, x.cells[j]? = some u → x.cells[0 + (0 + j)]? = some u := fun j u h => by rw [Nat.zero_add, Nat.zero_add]; exact h
    clear hx
    (refine WC.seq ?_; intro K hK)
    refine WC.region rfl ?_
    refine WL.want rfl (WL1.give rfl (g_lt rfl (.mk rfl rfl) (.mk rfl rfl) (decide_eq_true (by omega))) ?_)
    refine WL.nil ?_
    (refine hK _ _ ?_; clear hK)
    (refine WC.seq ?_; intro K hK)
    refine WC.cond_true (.mk rfl rfl) ?_
    refine WC.skip ?_
    (refine hK _ _ ?_; clear hK)
    (refine WC.seq ?_; intro K hK)
    refine WC.block ?_
    (refine WC.seq ?_; intro K hK)
    refine WC.region rfl ?_
    refine WL.want rfl (WL1.give rfl (g_indexAddr (sz := 9) rfl (.mk rfl rfl) (.mk rfl rfl) rfl rfl rfl (by omega) (fun _ _ => sl_some hs (by omega))) ?_)
    refine WL.want rfl (WL1.give rfl (g_loadA rfl (.mk rfl rfl) rfl (sz9r _) (rdr_sl hs (by omega) hgd)) ?_)
    refine WL.want rfl (WL1.alloc rfl rfl rfl rfl (fun b5 => ?_))
    refine WL.want rfl (WL1.storeAll rfl rfl (.mk rfl rfl) (.mk rfl rfl) (sz9r _) (Chg.one _) (by rw [Chg.len]; rfl) .head ?_)
    refine WL.nil ?_
    (refine hK _ _ ?_; clear hK)
    refine WC.region rfl ?_
    refine WL.want rfl (WL1.give rfl (g_move rfl (.mk (v := .slice _ _ _) rfl rfl)) ?_)
    refine WL.want rfl (WL1.give rfl (g_loadA rfl (.mk rfl rfl) rfl (sz9r _) (rdr_pt (cs := x.cells) (by repeat (first | exact .head _ | apply List.Mem.tail)) gx)) ?_)
    refine WL.want rfl (WL1.lit elC rfl rfl rfl (.cons (.mk (v := .agg _) rfl rfl) .nil) rfl (by intro v hv; rw [List.mem_singleton] at hv; subst hv; show (Chg.cells _).toArray.size = 9; rw [List.size_toArray, Chg.len]) (List.append_nil _) rfl (fun b14 => ?_))
    refine WL.want rfl (WL1.append elC rfl rfl (.mk rfl rfl) (.mk rfl rfl) (.tail (.tail (.head))) (fun w hw => Sl.of_vec hw (.head _)) (Chg.one _) (by unfold maxLen; omega) (by omega) (fun A15 c15 => ?_))
    refine WL.want rfl (WL1.give rfl (g_assign rfl (.mk (v := .slice _ _ _) rfl rfl)) ?_)
    refine WL.nil ?_
    (refine hK _ _ ?_; clear hK)
    refine WC.region rfl ?_
    refine WL.want rfl (WL1.give rfl (g_add rfl (.mk rfl rfl) (.mk rfl rfl) (IntWalk.i64_in _ (by omega))) ?_)
    refine WL.want rfl (WL1.give rfl (g_move rfl (.mk (v := .int _ _) rfl rfl)) ?_)
    refine WL.nil ?_
    exact ⟨i + 1, A15, c15, (by repeat (first | exact trivial | refine ⟨rfl, ?_⟩)), by rw [← hnx]; exact Imp.pick (by repeat (first | exact .head | apply Take.tail)) (Imp.nil _), by omega, by omega⟩
  · obtain rfl : i = l.length := by omega
    (refine WC.seq ?_; intro K hK)
    refine WC.region rfl ?_
    refine WL.want rfl (WL1.give rfl (g_lt rfl (.mk rfl rfl) (.mk rfl rfl) (decide_eq_false (by omega))) ?_)
    refine WL.nil ?_
    (refine hK _ _ ?_; clear hK)
    (refine WC.seq ?_; intro K hK)
    refine WC.cond_false (.mk rfl rfl) ?_
    refine WC.exit ?_
    (clear hK; refine hK _ _ ?_; clear hK)
    (refine WC.seq ?_; intro K hK)
    refine WC.region rfl ?_
    refine WL.want rfl (WL1.give rfl (g_move rfl (.mk (v := .slice _ _ _) rfl rfl)) ?_)
    refine WL.want rfl (WL1.give rfl (g_assign rfl (.mk (v := .slice _ _ _) rfl rfl)) ?_)
    refine WL.nil ?_
    (refine hK _ _ ?_; clear hK)
    refine WC.ret ?_
    exact fun w' hw' => ⟨_, _, rfl, hw', F, fc, rfl, by rw [List.take_length]⟩
set_option maxRecDepth 20000 in
set_option maxHeartbeats 1000000 in
theorem sameblocks_e (v1 v2 : Value) (a b : List Blk) (w : World) (h1 : Sl w 8 v1 a.length (kvs a)) (h2 : Sl w 8 v2 b.length (kvs b)) :
    Calls Try.prog 15 #[v1, v2] w fun e w' => e = .returned (.bool (decide (a = b))) ∧ Below w.heap.size w w' := by
  obtain ⟨A, c, rfl, hc, hm, hs⟩ := h1.open_
  obtain ⟨A2, c2, rfl, hc2, hm2, hs2⟩ := h2.open_
  unfold maxLen at hm
  by_cases hl : a.length = b.length
  · refine calls_wc (args := [.slice A a.length c, .slice A2 b.length c2]) [4] [] Try.func15 rfl Try.ntmps15 rfl rfl rfl rfl (H.refl _) ?_
    (refine WC.seq ?_; intro K hK)
    refine WC.region rfl ?_
    refine WL.want rfl (WL1.give rfl (g_assign rfl (.mk (v := .bool _) rfl rfl)) ?_)
    refine WL.nil ?_
    (refine hK _ _ ?_; clear hK)
    (refine WC.seq ?_; intro K hK)
    (refine WC.seq ?_; intro K hK)
    refine WC.region rfl ?_
    refine WL.want rfl (WL1.give rfl (g_move rfl (.mk (v := .slice _ _ _) rfl rfl)) ?_)
    refine WL.want rfl (WL1.give rfl (g_len rfl (.mk rfl rfl) rfl) ?_)
    refine WL.want rfl (WL1.give rfl (g_move rfl (.mk (v := .slice _ _ _) rfl rfl)) ?_)
    refine WL.want rfl (WL1.give rfl (g_len rfl (.mk rfl rfl) rfl) ?_)
    refine WL.want rfl (WL1.give rfl (g_ne rfl (.mk rfl rfl) (.mk rfl rfl) (decide_eq_false (by omega))) ?_)
    refine WL.nil ?_
    (refine hK _ _ ?_; clear hK)
    refine WC.cond_false (.mk rfl rfl) ?_
    refine WC.skip ?_
    (refine hK _ _ ?_; clear hK)
    (refine WC.seq ?_; intro K hK)
    (refine WC.seq ?_; intro K hK)
    refine WC.region rfl ?_
    refine WL.want rfl (WL1.give rfl (g_assign rfl (.mk (v := .int _ _) rfl rfl)) ?_)
    refine WL.nil ?_
    (refine hK _ _ ?_; clear hK)
    refine WC.block ?_
    refine WC.loopF (fun k : Nat => [(5, iv k), (0, .slice A a.length c), (1, .slice A2 b.length c2)]) (fun _ => []) (fun k => k ≤ a.length ∧ Agr a b k) (fun k => a.length - k) 0 (by repeat (first | exact trivial | refine ⟨rfl, ?_⟩)) (Imp.nil _) ⟨by omega, .zero _ _⟩ ?_
    rintro k U ⟨hk, hA⟩
    by_cases hlt : k < a.length
    · have g1 : ∀ t u, (nth a k).cells[t]? = some u → (kvs a)[k * 8 + t]? = some u := fun t u h => flat_row blk8 (by omega) t u h
      have g2 : ∀ t u, (nth b k).cells[t]? = some u → (kvs b)[k * 8 + t]? = some u := fun t u h => flat_row blk8 (by omega) t u h
      by_cases he : nth a k = nth b k
      · have E := blk_eq he
        (refine WC.seq ?_; intro K hK)
        (refine WC.seq ?_; intro K hK)
        refine WC.region rfl ?_
        refine WL.want rfl (WL1.give rfl (g_move rfl (.mk (v := .int _ _) rfl rfl)) ?_)
        refine WL.want rfl (WL1.give rfl (g_move rfl (.mk (v := .slice _ _ _) rfl rfl)) ?_)
        refine WL.want rfl (WL1.give rfl (g_len rfl (.mk rfl rfl) rfl) ?_)
        refine WL.want rfl (WL1.give rfl (g_lt rfl (.mk rfl rfl) (.mk rfl rfl) (decide_eq_true (by omega))) ?_)
        refine WL.nil ?_
        (refine hK _ _ ?_; clear hK)
        refine WC.cond_true (.mk rfl rfl) ?_
        refine WC.skip ?_
        (refine hK _ _ ?_; clear hK)
        (refine WC.seq ?_; intro K hK)
        refine WC.block ?_
        (refine WC.seq ?_; intro K hK)
        refine WC.quiet rfl (by kernel_rfl) (by decide +kernel) ?_
        refine WQ.want rfl (WQ1.give rfl (g_move rfl (.mk (v := .slice _ _ _) rfl rfl)) ?_)
        refine WQ.want rfl (WQ1.give rfl (g_move rfl (.mk (v := .int _ _) rfl rfl)) ?_)
        refine WQ.want rfl (WQ1.give rfl (g_indexAddr (sz := 8) rfl (.mk rfl rfl) (.mk rfl rfl) rfl rfl rfl (by omega) (fun _ _ => sl_some hs (by omega))) ?_)
        refine WQ.want rfl (WQ1.give rfl (g_loadA rfl (.mk rfl rfl) rfl (sz8 _) (rdr_sl hs (by omega) g1)) ?_)
        refine WQ.want rfl (WQ1.give rfl (g_move rfl (.mk (v := .slice _ _ _) rfl rfl)) ?_)
        refine WQ.want rfl (WQ1.give rfl (g_move rfl (.mk (v := .int _ _) rfl rfl)) ?_)
        refine WQ.want rfl (WQ1.give rfl (g_indexAddr (sz := 8) rfl (.mk rfl rfl) (.mk rfl rfl) rfl rfl rfl (by omega) (fun _ _ => sl_some hs2 (by omega))) ?_)
        refine WQ.want rfl (WQ1.give rfl (g_loadA rfl (.mk rfl rfl) rfl (sz8 _) (rdr_sl hs2 (by omega) g2)) ?_)
        refine WQ.want rfl (WQ1.give rfl (g_ane (by kernel_rfl) rfl (.mk rfl rfl) (.mk rfl rfl) E) ?_)
        refine WQ.nil ?_
        (refine hK _ _ ?_; clear hK)
        refine WC.cond_false (.mk rfl rfl) ?_
        refine WC.skip ?_
        (refine hK _ _ ?_; clear hK)
        refine WC.region rfl ?_
        refine WL.want rfl (WL1.give rfl (g_move rfl (.mk (v := .int _ _) rfl rfl)) ?_)
        refine WL.want rfl (WL1.give rfl (g_add rfl (.mk rfl rfl) (.mk rfl rfl) (IntWalk.i64_in _ (by omega))) ?_)
        refine WL.want rfl (WL1.give rfl (g_assign rfl (.mk (v := .int _ _) rfl rfl)) ?_)
        refine WL.nil ?_
        exact ⟨k + 1, (by repeat (first | exact trivial | refine ⟨rfl, ?_⟩)), .refl _, ⟨by omega, hA.succ he⟩, by omega⟩
      · have E := blk_ne he
        (refine WC.seq ?_; intro K hK)
        (refine WC.seq ?_; intro K hK)
        refine WC.region rfl ?_
        refine WL.want rfl (WL1.give rfl (g_move rfl (.mk (v := .int _ _) rfl rfl)) ?_)
        refine WL.want rfl (WL1.give rfl (g_move rfl (.mk (v := .slice _ _ _) rfl rfl)) ?_)
        refine WL.want rfl (WL1.give rfl (g_len rfl (.mk rfl rfl) rfl) ?_)
        refine WL.want rfl (WL1.give rfl (g_lt rfl (.mk rfl rfl) (.mk rfl rfl) (decide_eq_true (by omega))) ?_)
        refine WL.nil ?_
        (refine hK _ _ ?_; clear hK)
        refine WC.cond_true (.mk rfl rfl) ?_
        refine WC.skip ?_
        (refine hK _ _ ?_; clear hK)
        (refine WC.seq ?_; intro K hK)
        refine WC.block ?_
        (refine WC.seq ?_; intro K hK)
        refine WC.quiet rfl (by kernel_rfl) (by decide +kernel) ?_
        refine WQ.want rfl (WQ1.give rfl (g_move rfl (.mk (v := .slice _ _ _) rfl rfl)) ?_)
        refine WQ.want rfl (WQ1.give rfl (g_move rfl (.mk (v := .int _ _) rfl rfl)) ?_)
        refine WQ.want rfl (WQ1.give rfl (g_indexAddr (sz := 8) rfl (.mk rfl rfl) (.mk rfl rfl) rfl rfl rfl (by omega) (fun _ _ => sl_some hs (by omega))) ?_)
        refine WQ.want rfl (WQ1.give rfl (g_loadA rfl (.mk rfl rfl) rfl (sz8 _) (rdr_sl hs (by omega) g1)) ?_)
        refine WQ.want rfl (WQ1.give rfl (g_move rfl (.mk (v := .slice _ _ _) rfl rfl)) ?_)
        refine WQ.want rfl (WQ1.give rfl (g_move rfl (.mk (v := .int _ _) rfl rfl)) ?_)
        refine WQ.want rfl (WQ1.give rfl (g_indexAddr (sz := 8) rfl (.mk rfl rfl) (.mk rfl rfl) rfl rfl rfl (by omega) (fun _ _ => sl_some hs2 (by omega))) ?_)
        refine WQ.want rfl (WQ1.give rfl (g_loadA rfl (.mk rfl rfl) rfl (sz8 _) (rdr_sl hs2 (by omega) g2)) ?_)
        refine WQ.want rfl (WQ1.give rfl (g_ane (by kernel_rfl) rfl (.mk rfl rfl) (.mk rfl rfl) E) ?_)
        refine WQ.nil ?_
        (refine hK _ _ ?_; clear hK)
        refine WC.cond_true (.mk rfl rfl) ?_
        (refine WC.seq ?_; intro K hK)
        refine WC.region rfl ?_
        refine WL.want rfl (WL1.give rfl (g_assign rfl (.mk (v := .bool _) rfl rfl)) ?_)
        refine WL.nil ?_
        (refine hK _ _ ?_; clear hK)
        refine WC.ret ?_
        exact fun w' hw' => ⟨by rw [decide_eq_false (fun h => he (by rw [h]))]; rfl, hw'.1⟩
    · obtain rfl : k = a.length := by omega
      (refine WC.seq ?_; intro K hK)
      (refine WC.seq ?_; intro K hK)
      refine WC.region rfl ?_
      refine WL.want rfl (WL1.give rfl (g_move rfl (.mk (v := .int _ _) rfl rfl)) ?_)
      refine WL.want rfl (WL1.give rfl (g_move rfl (.mk (v := .slice _ _ _) rfl rfl)) ?_)
      refine WL.want rfl (WL1.give rfl (g_len rfl (.mk rfl rfl) rfl) ?_)
      refine WL.want rfl (WL1.give rfl (g_lt rfl (.mk rfl rfl) (.mk rfl rfl) (decide_eq_false (by omega))) ?_)
      refine WL.nil ?_
      (refine hK _ _ ?_; clear hK)
      refine WC.cond_false (.mk rfl rfl) ?_
      refine WC.exit ?_
      (clear hK; refine hK _ _ ?_; clear hK)
      (refine WC.seq ?_; intro K hK)
      refine WC.region rfl ?_
      refine WL.want rfl (WL1.give rfl (g_assign rfl (.mk (v := .bool _) rfl rfl)) ?_)
      refine WL.nil ?_
      (refine hK _ _ ?_; clear hK)
      refine WC.ret ?_
      exact fun w' hw' => ⟨by rw [decide_eq_true (hA.all hl)]; rfl, hw'.1⟩
  · refine calls_wc (args := [.slice A a.length c, .slice A2 b.length c2]) [4] [] Try.func15 rfl Try.ntmps15 rfl rfl rfl rfl (H.refl _) ?_
    (refine WC.seq ?_; intro K hK)
    refine WC.region rfl ?_
    refine WL.want rfl (WL1.give rfl (g_assign rfl (.mk (v := .bool _) rfl rfl)) ?_)
    refine WL.nil ?_
    (refine hK _ _ ?_; clear hK)
    (refine WC.seq ?_; intro K hK)
    (refine WC.seq ?_; intro K hK)
    refine WC.region rfl ?_
    refine WL.want rfl (WL1.give rfl (g_move rfl (.mk (v := .slice _ _ _) rfl rfl)) ?_)
    refine WL.want rfl (WL1.give rfl (g_len rfl (.mk rfl rfl) rfl) ?_)
    refine WL.want rfl (WL1.give rfl (g_move rfl (.mk (v := .slice _ _ _) rfl rfl)) ?_)
    refine WL.want rfl (WL1.give rfl (g_len rfl (.mk rfl rfl) rfl) ?_)
    refine WL.want rfl (WL1.give rfl (g_ne rfl (.mk rfl rfl) (.mk rfl rfl) (decide_eq_true (by omega))) ?_)
    refine WL.nil ?_
    (refine hK _ _ ?_; clear hK)
    refine WC.cond_true (.mk rfl rfl) ?_
    (refine WC.seq ?_; intro K hK)
    refine WC.region rfl ?_
    refine WL.want rfl (WL1.give rfl (g_assign rfl (.mk (v := .bool _) rfl rfl)) ?_)
    refine WL.nil ?_
    (refine hK _ _ ?_; clear hK)
    refine WC.ret ?_
    exact fun w' hw' => ⟨by rw [decide_eq_false (fun h => hl (by rw [h]))]; rfl, hw'.1⟩
theorem sameblocks_t {v1 v2 : Value} {a b : List Blk} {n m : Nat} {w : World} (h1 : Sl w 8 v1 n (kvs a)) (h2 : Sl w 8 v2 m (kvs b)) (hn : a.length = n) (hm : b.length = m) (he : a = b) : Calls Try.prog 15 #[v1, v2] w fun e w' => e = .returned (.bool true) ∧ Below w.heap.size w w' := by
  subst hn; subst hm; subst he
  have := sameblocks_e v1 v2 a a w h1 h2
  rwa [decide_eq_true rfl] at this
set_option maxRecDepth 20000 in
set_option maxHeartbeats 4000000 in
theorem apply_bad (vp vl : Value) (ps : List Blk) (l : List Chg) (w : World) (hp : Sl w 8 vp ps.length (kvs ps)) (hl : Sl w 9 vl l.length (cvs l)) (h2 : ps.length ≤ 1000) (h : ¬ (isGroup ps = true ∧ okC ps.length l = true)) :
    Calls Try.prog 12 #[vp, vl] w fun e w' => e = .returned (.tuple #[.slice none 0 0, .slice none 0 0, iv 1]) ∧ Below w.heap.size w w' := by
  have hck := fun w' hb => check_e vp ps w' (hp.below (w' := w') hb) (by omega)
  have hch := fun w' hb => changes_e vl l ps.length w' (by omega) (hl.below (w' := w') hb)
  obtain ⟨A, c, rfl, hcc, hm, hs⟩ := hp.open_
  obtain ⟨B, d, rfl, hcd, hmd, hsb⟩ := hl.open_
  cases hg : isGroup ps with
  | false =>
    rw [hg] at hck
    refine calls_wc (args := [.slice A ps.length c, .slice B l.length d]) [4, 5, 6] [] Try.func12 rfl Try.ntmps12 rfl rfl rfl rfl (H.refl _) ?_
    (refine WC.seq ?_; intro K hK)
    refine WC.region rfl ?_
    refine WL.want rfl (WL1.give rfl (g_assign rfl (.mk (v := .slice _ _ _) rfl rfl)) ?_)
    refine WL.want rfl (WL1.give rfl (g_assign rfl (.mk (v := .slice _ _ _) rfl rfl)) ?_)
    refine WL.want rfl (WL1.give rfl (g_assign rfl (.mk (v := .int _ _) rfl rfl)) ?_)
    refine WL.nil ?_
    (refine hK _ _ ?_; clear hK)
    (refine WC.seq ?_; intro K hK)
    refine WC.region rfl ?_
    refine WL.want rfl (WL1.give rfl (g_move rfl (.mk (v := .slice _ _ _) rfl rfl)) ?_)
    refine WL.want rfl (WL1.give rfl (g_len rfl (.mk rfl rfl) rfl) ?_)
    refine WL.want rfl (WL1.give rfl (g_assign rfl (.mk (v := .int _ _) rfl rfl)) ?_)
    refine WL.nil ?_
    (refine hK _ _ ?_; clear hK)
    (refine WC.seq ?_; intro K hK)
    (refine WC.seq ?_; intro K hK)
    refine WC.region rfl ?_
    refine WL.want rfl (WL1.give rfl (g_move rfl (.mk (v := .slice _ _ _) rfl rfl)) ?_)
    refine WL.want rfl (WL1.callP rfl rfl rfl (.cons (.mk (v := .slice _ _ _) rfl rfl) .nil) (fun w hw => hck w hw.1) ?_)
    refine WL.want rfl (WL1.give rfl (g_notF rfl (.mk rfl rfl)) ?_)
    refine WL.want rfl (WL1.give rfl (g_move rfl (.mk (v := .bool _) rfl rfl)) ?_)
    refine WL.skipG rfl rfl rfl rfl rfl rfl ?_
    refine WL.skipG rfl rfl rfl rfl rfl rfl ?_
    refine WL.skipG rfl rfl rfl rfl rfl rfl ?_
    refine WL.skipG rfl rfl rfl rfl rfl rfl ?_
    refine WL.want rfl (WL1.give rfl (g_pickT rfl (.mk rfl rfl) (.mk (v := .bool _) rfl rfl)) ?_)
    refine WL.nil ?_
    (refine hK _ _ ?_; clear hK)
    refine WC.cond_true (.mk rfl rfl) ?_
    (refine WC.seq ?_; intro K hK)
    refine WC.region rfl ?_
    refine WL.want rfl (WL1.give rfl (g_assign rfl (.mk (v := .slice _ _ _) rfl rfl)) ?_)
    refine WL.want rfl (WL1.give rfl (g_assign rfl (.mk (v := .slice _ _ _) rfl rfl)) ?_)
    refine WL.want rfl (WL1.give rfl (g_assign rfl (.mk (v := .int _ _) rfl rfl)) ?_)
    refine WL.nil ?_
    (refine hK _ _ ?_; clear hK)
    refine WC.ret ?_
    exact fun w' hw' => ⟨rfl, hw'.1⟩
  | true =>
    have ho : okC ps.length l = false := by
      cases ho : okC ps.length l with
      | false => rfl
      | true => exact absurd ⟨hg, ho⟩ h
    rw [hg] at hck
    rw [ho] at hch
    refine calls_wc (args := [.slice A ps.length c, .slice B l.length d]) [4, 5, 6] [] Try.func12 rfl Try.ntmps12 rfl rfl rfl rfl (H.refl _) ?_
    (refine WC.seq ?_; intro K hK)
    refine WC.region rfl ?_
    refine WL.want rfl (WL1.give rfl (g_assign rfl (.mk (v := .slice _ _ _) rfl rfl)) ?_)
    refine WL.want rfl (WL1.give rfl (g_assign rfl (.mk (v := .slice _ _ _) rfl rfl)) ?_)
    refine WL.want rfl (WL1.give rfl (g_assign rfl (.mk (v := .int _ _) rfl rfl)) ?_)
    refine WL.nil ?_
    (refine hK _ _ ?_; clear hK)
    (refine WC.seq ?_; intro K hK)
    refine WC.region rfl ?_
    refine WL.want rfl (WL1.give rfl (g_move rfl (.mk (v := .slice _ _ _) rfl rfl)) ?_)
    refine WL.want rfl (WL1.give rfl (g_len rfl (.mk rfl rfl) rfl) ?_)
    refine WL.want rfl (WL1.give rfl (g_assign rfl (.mk (v := .int _ _) rfl rfl)) ?_)
    refine WL.nil ?_
    (refine hK _ _ ?_; clear hK)
    (refine WC.seq ?_; intro K hK)
    (refine WC.seq ?_; intro K hK)
    refine WC.region rfl ?_
    refine WL.want rfl (WL1.give rfl (g_move rfl (.mk (v := .slice _ _ _) rfl rfl)) ?_)
    refine WL.want rfl (WL1.callP rfl rfl rfl (.cons (.mk (v := .slice _ _ _) rfl rfl) .nil) (fun w hw => hck w hw.1) ?_)
    refine WL.want rfl (WL1.give rfl (g_notT rfl (.mk rfl rfl)) ?_)
    refine WL.want rfl (WL1.give rfl (g_move rfl (.mk (v := .bool _) rfl rfl)) ?_)
    refine WL.wantG rfl rfl rfl rfl (WL1.give rfl (g_move rfl (.mk (v := .int _ _) rfl rfl)) ?_)
    refine WL.wantG rfl rfl rfl rfl (WL1.give rfl (g_move rfl (.mk (v := .slice _ _ _) rfl rfl)) ?_)
    refine WL.wantG rfl rfl rfl rfl (WL1.callP rfl rfl rfl (.cons (.mk (v := .int _ _) rfl rfl) (.cons (.mk (v := .slice _ _ _) rfl rfl) .nil)) (fun w hw => hch w hw.1) ?_)
    refine WL.wantG rfl rfl rfl rfl (WL1.give rfl (g_notF rfl (.mk rfl rfl)) ?_)
    refine WL.want rfl (WL1.give rfl (g_pickF rfl (.mk rfl rfl) (.mk (v := .bool _) rfl rfl)) ?_)
    refine WL.nil ?_
    (refine hK _ _ ?_; clear hK)
    refine WC.cond_true (.mk rfl rfl) ?_
    (refine WC.seq ?_; intro K hK)
    refine WC.region rfl ?_
    refine WL.want rfl (WL1.give rfl (g_assign rfl (.mk (v := .slice _ _ _) rfl rfl)) ?_)
    refine WL.want rfl (WL1.give rfl (g_assign rfl (.mk (v := .slice _ _ _) rfl rfl)) ?_)
    refine WL.want rfl (WL1.give rfl (g_assign rfl (.mk (v := .int _ _) rfl rfl)) ?_)
    refine WL.nil ?_
    (refine hK _ _ ?_; clear hK)
    refine WC.ret ?_
    exact fun w' hw' => ⟨rfl, hw'.1⟩
set_option maxRecDepth 20000 in
set_option maxHeartbeats 4000000 in
theorem proper_e (v : Value) (l : List Chg) (m : Int) (w : World) (hm0 : 0 ≤ m ∧ m ≤ 1000) (hv : Sl w 9 v l.length (cvs l)) :
    Calls Try.prog 39 #[iv m, v] w fun e w' => e = .returned (.bool (okC m l)) ∧ Below w.heap.size w w' := by
  obtain ⟨A, c, rfl, hc, hm, hs⟩ := hv.open_
  unfold maxLen at hm
  have hsub : IntKind.i64.wrap (m - 3) = m - 3 := IntWalk.i64_in _ (by omega)
  refine calls_wc (args := [iv m, .slice A l.length c]) [4] [] Try.func39 rfl Try.ntmps39 rfl rfl rfl rfl (H.refl _) ?_
  (refine WC.seq ?_; intro K hK)
  refine WC.region rfl ?_
  refine WL.want rfl (WL1.give rfl (g_assign rfl (.mk (v := .bool _) rfl rfl)) ?_)
  refine WL.nil ?_
  (refine hK _ _ ?_; clear hK)
  (refine WC.seq ?_; intro K hK)
  (refine WC.seq ?_; intro K hK)
  refine WC.region rfl ?_
  refine WL.want rfl (WL1.give rfl (g_assign rfl (.mk (v := .int _ _) rfl rfl)) ?_)
  refine WL.nil ?_
  (refine hK _ _ ?_; clear hK)
  refine WC.block ?_
  refine WC.loopF (fun k : Nat => [(5, iv k), (0, iv m), (1, .slice A l.length c)]) (fun _ => []) (fun k => k ≤ l.length ∧ ∀ j, j < k → badC m (nth l j) = false) (fun k => l.length - k) 0 (by repeat (first | exact trivial | refine ⟨rfl, ?_⟩)) (Imp.nil _) ⟨by omega, fun j hj => absurd hj (Nat.not_lt_zero j)⟩ ?_
  rintro k U ⟨hk, hq⟩
  by_cases hlt : k < l.length
  · have hgs : (cvs l)[k * 9 + 0]? = some (iv (nth l k).s) := chg_row (l := l) (k := k) hlt 0 _ rfl
    obtain ⟨z, hz⟩ : ∃ z, z = (nth l k).s := ⟨_, rfl⟩
    have hbz : badC m (nth l k) = decide (z < 0 ∨ m - 3 ≤ z) := by rw [hz]; rfl
    rw [← hz] at hgs
    clear hz
    by_cases q1 : z < 0
    · have hb : badC m (nth l k) = true := by rw [hbz]; exact decide_eq_true (.inl q1)
      (refine WC.seq ?_; intro K hK)
      (refine WC.seq ?_; intro K hK)
      refine WC.region rfl ?_
      refine WL.want rfl (WL1.give rfl (g_move rfl (.mk (v := .int _ _) rfl rfl)) ?_)
      refine WL.want rfl (WL1.give rfl (g_move rfl (.mk (v := .slice _ _ _) rfl rfl)) ?_)
      refine WL.want rfl (WL1.give rfl (g_len rfl (.mk rfl rfl) rfl) ?_)
      refine WL.want rfl (WL1.give rfl (g_lt rfl (.mk rfl rfl) (.mk rfl rfl) (decide_eq_true (by omega))) ?_)
      refine WL.nil ?_
      (refine hK _ _ ?_; clear hK)
      refine WC.cond_true (.mk rfl rfl) ?_
      refine WC.skip ?_
      (refine hK _ _ ?_; clear hK)
      (refine WC.seq ?_; intro K hK)
      refine WC.block ?_
      (refine WC.seq ?_; intro K hK)
      refine WC.region rfl ?_
      refine WL.want rfl (WL1.give rfl (g_move rfl (.mk (v := .slice _ _ _) rfl rfl)) ?_)
      refine WL.want rfl (WL1.give rfl (g_move rfl (.mk (v := .int _ _) rfl rfl)) ?_)
      refine WL.want rfl (WL1.give rfl (g_indexAddr (sz := 9) rfl (.mk rfl rfl) (.mk rfl rfl) rfl rfl rfl (by omega) (fun _ _ => sl_some hs (by omega))) ?_)
      refine WL.want rfl (WL1.give rfl (g_fieldAddr (off := 0) rfl (.mk rfl rfl) rfl (fun _ _ => sl_some hs (by omega))) ?_)
      refine WL.want rfl (WL1.give rfl (g_load rfl (.mk rfl rfl) rfl (rd_sl hs hgs)) ?_)
      refine WL.want rfl (WL1.give rfl (g_lt rfl (.mk rfl rfl) (.mk rfl rfl) (decide_eq_true (by omega))) ?_)
      refine WL.want rfl (WL1.give rfl (g_move rfl (.mk (v := .bool _) rfl rfl)) ?_)
      refine WL.skipG rfl rfl rfl rfl rfl rfl ?_
      refine WL.skipG rfl rfl rfl rfl rfl rfl ?_
      refine WL.skipG rfl rfl rfl rfl rfl rfl ?_
      refine WL.skipG rfl rfl rfl rfl rfl rfl ?_
      refine WL.skipG rfl rfl rfl rfl rfl rfl ?_
      refine WL.skipG rfl rfl rfl rfl rfl rfl ?_
      refine WL.skipG rfl rfl rfl rfl rfl rfl ?_
      refine WL.skipG rfl rfl rfl rfl rfl rfl ?_
      refine WL.want rfl (WL1.give rfl (g_pickT rfl (.mk rfl rfl) (.mk (v := .bool _) rfl rfl)) ?_)
      refine WL.nil ?_
      (refine hK _ _ ?_; clear hK)
      refine WC.cond_true (.mk rfl rfl) ?_
      (refine WC.seq ?_; intro K hK)
      refine WC.region rfl ?_
      refine WL.want rfl (WL1.give rfl (g_assign rfl (.mk (v := .bool _) rfl rfl)) ?_)
      refine WL.nil ?_
      (refine hK _ _ ?_; clear hK)
      refine WC.ret ?_
      exact fun w' hw' => ⟨by unfold okC; rw [fnd_eq (p := fun k => badC m (nth l k)) hlt hb hq]; rfl, hw'.1⟩
    · by_cases q2 : m - 3 ≤ z
      · have hb : badC m (nth l k) = true := by rw [hbz]; exact decide_eq_true (.inr q2)
        (refine WC.seq ?_; intro K hK)
        (refine WC.seq ?_; intro K hK)
        refine WC.region rfl ?_
        refine WL.want rfl (WL1.give rfl (g_move rfl (.mk (v := .int _ _) rfl rfl)) ?_)
        refine WL.want rfl (WL1.give rfl (g_move rfl (.mk (v := .slice _ _ _) rfl rfl)) ?_)
        refine WL.want rfl (WL1.give rfl (g_len rfl (.mk rfl rfl) rfl) ?_)
        refine WL.want rfl (WL1.give rfl (g_lt rfl (.mk rfl rfl) (.mk rfl rfl) (decide_eq_true (by omega))) ?_)
        refine WL.nil ?_
        (refine hK _ _ ?_; clear hK)
        refine WC.cond_true (.mk rfl rfl) ?_
        refine WC.skip ?_
        (refine hK _ _ ?_; clear hK)
        (refine WC.seq ?_; intro K hK)
        refine WC.block ?_
        (refine WC.seq ?_; intro K hK)
        refine WC.region rfl ?_
        refine WL.want rfl (WL1.give rfl (g_move rfl (.mk (v := .slice _ _ _) rfl rfl)) ?_)
        refine WL.want rfl (WL1.give rfl (g_move rfl (.mk (v := .int _ _) rfl rfl)) ?_)
        refine WL.want rfl (WL1.give rfl (g_indexAddr (sz := 9) rfl (.mk rfl rfl) (.mk rfl rfl) rfl rfl rfl (by omega) (fun _ _ => sl_some hs (by omega))) ?_)
        refine WL.want rfl (WL1.give rfl (g_fieldAddr (off := 0) rfl (.mk rfl rfl) rfl (fun _ _ => sl_some hs (by omega))) ?_)
        refine WL.want rfl (WL1.give rfl (g_load rfl (.mk rfl rfl) rfl (rd_sl hs hgs)) ?_)
        refine WL.want rfl (WL1.give rfl (g_lt rfl (.mk rfl rfl) (.mk rfl rfl) (decide_eq_false (by omega))) ?_)
        refine WL.want rfl (WL1.give rfl (g_move rfl (.mk (v := .bool _) rfl rfl)) ?_)
        refine WL.wantG rfl rfl rfl rfl (WL1.give rfl (g_move rfl (.mk (v := .slice _ _ _) rfl rfl)) ?_)
        refine WL.wantG rfl rfl rfl rfl (WL1.give rfl (g_move rfl (.mk (v := .int _ _) rfl rfl)) ?_)
        refine WL.wantG rfl rfl rfl rfl (WL1.give rfl (g_indexAddr (sz := 9) rfl (.mk rfl rfl) (.mk rfl rfl) rfl rfl rfl (by omega) (fun _ _ => sl_some hs (by omega))) ?_)
        refine WL.wantG rfl rfl rfl rfl (WL1.give rfl (g_fieldAddr (off := 0) rfl (.mk rfl rfl) rfl (fun _ _ => sl_some hs (by omega))) ?_)
        refine WL.wantG rfl rfl rfl rfl (WL1.give rfl (g_load rfl (.mk rfl rfl) rfl (rd_sl hs hgs)) ?_)
        refine WL.wantG rfl rfl rfl rfl (WL1.give rfl (g_move rfl (.mk (v := .int _ _) rfl rfl)) ?_)
        refine WL.wantG rfl rfl rfl rfl (WL1.give rfl (g_sub rfl (.mk rfl rfl) (.mk rfl rfl) hsub) ?_)
        refine WL.wantG rfl rfl rfl rfl (WL1.give rfl (g_ge rfl (.mk rfl rfl) (.mk rfl rfl) (decide_eq_true (by omega))) ?_)
        refine WL.want rfl (WL1.give rfl (g_pickF rfl (.mk rfl rfl) (.mk (v := .bool _) rfl rfl)) ?_)
        refine WL.nil ?_
        (refine hK _ _ ?_; clear hK)
        refine WC.cond_true (.mk rfl rfl) ?_
        (refine WC.seq ?_; intro K hK)
        refine WC.region rfl ?_
        refine WL.want rfl (WL1.give rfl (g_assign rfl (.mk (v := .bool _) rfl rfl)) ?_)
        refine WL.nil ?_
        (refine hK _ _ ?_; clear hK)
        refine WC.ret ?_
        exact fun w' hw' => ⟨by unfold okC; rw [fnd_eq (p := fun k => badC m (nth l k)) hlt hb hq]; rfl, hw'.1⟩
      · have hb : badC m (nth l k) = false := by rw [hbz]; exact decide_eq_false (by omega)
        (refine WC.seq ?_; intro K hK)
        (refine WC.seq ?_; intro K hK)
        refine WC.region rfl ?_
        refine WL.want rfl (WL1.give rfl (g_move rfl (.mk (v := .int _ _) rfl rfl)) ?_)
        refine WL.want rfl (WL1.give rfl (g_move rfl (.mk (v := .slice _ _ _) rfl rfl)) ?_)
        refine WL.want rfl (WL1.give rfl (g_len rfl (.mk rfl rfl) rfl) ?_)
        refine WL.want rfl (WL1.give rfl (g_lt rfl (.mk rfl rfl) (.mk rfl rfl) (decide_eq_true (by omega))) ?_)
        refine WL.nil ?_
        (refine hK _ _ ?_; clear hK)
        refine WC.cond_true (.mk rfl rfl) ?_
        refine WC.skip ?_
        (refine hK _ _ ?_; clear hK)
        (refine WC.seq ?_; intro K hK)
        refine WC.block ?_
        (refine WC.seq ?_; intro K hK)
        refine WC.region rfl ?_
        refine WL.want rfl (WL1.give rfl (g_move rfl (.mk (v := .slice _ _ _) rfl rfl)) ?_)
        refine WL.want rfl (WL1.give rfl (g_move rfl (.mk (v := .int _ _) rfl rfl)) ?_)
        refine WL.want rfl (WL1.give rfl (g_indexAddr (sz := 9) rfl (.mk rfl rfl) (.mk rfl rfl) rfl rfl rfl (by omega) (fun _ _ => sl_some hs (by omega))) ?_)
        refine WL.want rfl (WL1.give rfl (g_fieldAddr (off := 0) rfl (.mk rfl rfl) rfl (fun _ _ => sl_some hs (by omega))) ?_)
        refine WL.want rfl (WL1.give rfl (g_load rfl (.mk rfl rfl) rfl (rd_sl hs hgs)) ?_)
        refine WL.want rfl (WL1.give rfl (g_lt rfl (.mk rfl rfl) (.mk rfl rfl) (decide_eq_false (by omega))) ?_)
        refine WL.want rfl (WL1.give rfl (g_move rfl (.mk (v := .bool _) rfl rfl)) ?_)
        refine WL.wantG rfl rfl rfl rfl (WL1.give rfl (g_move rfl (.mk (v := .slice _ _ _) rfl rfl)) ?_)
        refine WL.wantG rfl rfl rfl rfl (WL1.give rfl (g_move rfl (.mk (v := .int _ _) rfl rfl)) ?_)
        refine WL.wantG rfl rfl rfl rfl (WL1.give rfl (g_indexAddr (sz := 9) rfl (.mk rfl rfl) (.mk rfl rfl) rfl rfl rfl (by omega) (fun _ _ => sl_some hs (by omega))) ?_)
        refine WL.wantG rfl rfl rfl rfl (WL1.give rfl (g_fieldAddr (off := 0) rfl (.mk rfl rfl) rfl (fun _ _ => sl_some hs (by omega))) ?_)
        refine WL.wantG rfl rfl rfl rfl (WL1.give rfl (g_load rfl (.mk rfl rfl) rfl (rd_sl hs hgs)) ?_)
        refine WL.wantG rfl rfl rfl rfl (WL1.give rfl (g_move rfl (.mk (v := .int _ _) rfl rfl)) ?_)
        refine WL.wantG rfl rfl rfl rfl (WL1.give rfl (g_sub rfl (.mk rfl rfl) (.mk rfl rfl) hsub) ?_)
        refine WL.wantG rfl rfl rfl rfl (WL1.give rfl (g_ge rfl (.mk rfl rfl) (.mk rfl rfl) (decide_eq_false (by omega))) ?_)
        refine WL.want rfl (WL1.give rfl (g_pickF rfl (.mk rfl rfl) (.mk (v := .bool _) rfl rfl)) ?_)
        refine WL.nil ?_
        (refine hK _ _ ?_; clear hK)
        refine WC.cond_false (.mk rfl rfl) ?_
        refine WC.skip ?_
        (refine hK _ _ ?_; clear hK)
        refine WC.region rfl ?_
        refine WL.want rfl (WL1.give rfl (g_move rfl (.mk (v := .int _ _) rfl rfl)) ?_)
        refine WL.want rfl (WL1.give rfl (g_add rfl (.mk rfl rfl) (.mk rfl rfl) (IntWalk.i64_in _ (by omega))) ?_)
        refine WL.want rfl (WL1.give rfl (g_assign rfl (.mk (v := .int _ _) rfl rfl)) ?_)
        refine WL.nil ?_
        refine ⟨k + 1, (by repeat (first | exact trivial | refine ⟨rfl, ?_⟩)), .refl _, ⟨by omega, fun j hj => ?_⟩, by omega⟩
        by_cases e : j = k
        · rw [e]; exact hb
        · exact hq j (by omega)
  · obtain rfl : k = l.length := by omega
    (refine WC.seq ?_; intro K hK)
    (refine WC.seq ?_; intro K hK)
    refine WC.region rfl ?_
    refine WL.want rfl (WL1.give rfl (g_move rfl (.mk (v := .int _ _) rfl rfl)) ?_)
    refine WL.want rfl (WL1.give rfl (g_move rfl (.mk (v := .slice _ _ _) rfl rfl)) ?_)
    refine WL.want rfl (WL1.give rfl (g_len rfl (.mk rfl rfl) rfl) ?_)
    refine WL.want rfl (WL1.give rfl (g_lt rfl (.mk rfl rfl) (.mk rfl rfl) (decide_eq_false (by omega))) ?_)
    refine WL.nil ?_
    (refine hK _ _ ?_; clear hK)
    refine WC.cond_false (.mk rfl rfl) ?_
    refine WC.exit ?_
    (clear hK; refine hK _ _ ?_; clear hK)
    (refine WC.seq ?_; intro K hK)
    refine WC.region rfl ?_
    refine WL.want rfl (WL1.give rfl (g_assign rfl (.mk (v := .bool _) rfl rfl)) ?_)
    refine WL.nil ?_
    (refine hK _ _ ?_; clear hK)
    refine WC.ret ?_
    exact fun w' hw' => ⟨by unfold okC; rw [fnd_all hq]; rfl, hw'.1⟩
set_option maxRecDepth 20000 in
set_option maxHeartbeats 1000000 in
theorem rencode_n (v : Value) (ds : List Blk) (w : World) (hv : Sl w 8 v ds.length (kvs ds)) (h1 : 1 ≤ ds.length) (h2 : ds.length ≤ 13) : Calls Try.prog 40 #[v] w fun e w' => ∃ v' M, e = .returned v' ∧ H w M w' ∧
    ∃ b, v' = .tuple #[.slice (some ⟨b, 0, none⟩) 3 3, iv 0] ∧ M = [vec (some ⟨b, 0, none⟩) 3 3 38 8 (kvs (enc ds))] := by
  obtain ⟨A, c, rfl, hc, hm, hs⟩ := hv.open_
  refine calls_wc (args := [.slice A ds.length c]) [2, 3] [] Try.func40 rfl Try.ntmps40 rfl rfl rfl rfl (H.refl _) ?_
  (refine WC.seq ?_; intro K hK)
  refine WC.region rfl ?_
  refine WL.want rfl (WL1.give rfl (g_assign rfl (.mk (v := .slice _ _ _) rfl rfl)) ?_)
  refine WL.want rfl (WL1.give rfl (g_assign rfl (.mk (v := .int _ _) rfl rfl)) ?_)
  refine WL.nil ?_
  (refine hK _ _ ?_; clear hK)
  (refine WC.seq ?_; intro K hK)
  (refine WC.seq ?_; intro K hK)
  refine WC.region rfl ?_
  refine WL.want rfl (WL1.give rfl (g_move rfl (.mk (v := .slice _ _ _) rfl rfl)) ?_)
  refine WL.want rfl (WL1.give rfl (g_len rfl (.mk rfl rfl) rfl) ?_)
  refine WL.want rfl (WL1.give rfl (g_lt rfl (.mk rfl rfl) (.mk rfl rfl) (decide_eq_false (by omega))) ?_)
  refine WL.want rfl (WL1.give rfl (g_move rfl (.mk (v := .bool _) rfl rfl)) ?_)
  refine WL.wantG rfl rfl rfl rfl (WL1.give rfl (g_move rfl (.mk (v := .slice _ _ _) rfl rfl)) ?_)
  refine WL.wantG rfl rfl rfl rfl (WL1.give rfl (g_len rfl (.mk rfl rfl) rfl) ?_)
  refine WL.wantG rfl rfl rfl rfl (WL1.give rfl (g_gt rfl (.mk rfl rfl) (.mk rfl rfl) (decide_eq_false (by omega))) ?_)
  refine WL.want rfl (WL1.give rfl (g_pickF rfl (.mk rfl rfl) (.mk (v := .bool _) rfl rfl)) ?_)
  refine WL.nil ?_
  (refine hK _ _ ?_; clear hK)
  refine WC.cond_false (.mk rfl rfl) ?_
  refine WC.skip ?_
  (refine hK _ _ ?_; clear hK)
  (refine WC.seq ?_; intro K hK)
  refine WC.region rfl ?_
  refine WL.want rfl (WL1.give rfl (g_move rfl (.mk (v := .slice _ _ _) rfl rfl)) ?_)
  (refine WL.want rfl (WL1.callN rfl rfl rfl (.cons (.mk (v := .slice _ _ _) rfl rfl) .nil) (fun w hw => parity_n _ ds w (hs.below hw.1) (by omega)) ?_); rintro _ _ ⟨bp, rfl, rfl⟩)
  refine WL.want rfl (WL1.give rfl (g_assign rfl (.mk (v := .slice _ _ _) rfl rfl)) ?_)
  refine WL.want rfl (WL1.give rfl (g_assign rfl (.mk (v := .int _ _) rfl rfl)) ?_)
  refine WL.nil ?_
  (refine hK _ _ ?_; clear hK)
  refine WC.ret ?_
  exact fun w' hw' => ⟨_, _, rfl, hw', bp, rfl, rfl⟩
end Go.Proofs.Ytnkbnponpknokaa
namespace Go.Proofs.Ytnkbnponpknokaa
open Go.RowKit
attribute [local irreducible] Calls
/-- A write of a piece: group, piece, version, contents. -/
structure PWr where
  g : Int
  p : Int
  v : Int
  b : Blk
instance : Inhabited PWr := ⟨⟨0, 0, 0, 0⟩⟩
def PWr.cells (x : PWr) : List Value := iv x.g :: iv x.p :: .int .u64 x.v :: x.b.cells
theorem PWr.len (x : PWr) : x.cells.length = 11 := by simp [PWr.cells, Blk.len]
theorem pwr11 {l : List PWr} : ∀ x ∈ l, (PWr.cells x).length = 11 := fun x _ => x.len
theorem PWr.one (x : PWr) : ∀ u ∈ x.cells, u.oneCell' = true := fun u h => by
  rcases List.mem_cons.1 h with rfl | h
  · rfl
  rcases List.mem_cons.1 h with rfl | h
  · rfl
  rcases List.mem_cons.1 h with rfl | h
  · rfl
  · exact x.b.one u h
abbrev pws (l : List PWr) : List Value := l.flatMap PWr.cells
theorem pws_len (l : List PWr) : (pws l).length = l.length * 11 := flat_len pwr11
theorem pwr_row {l : List PWr} {k : Nat} (hk : k < l.length) : ∀ j u, (nth l k).cells[j]? = some u → (pws l)[k * 11 + j]? = some u := fun j u h => flat_row pwr11 hk j u h
set_option maxRecDepth 20000 in
theorem szPw (x : PWr) : szT Try.prog 87 = some x.cells.length := by rw [PWr.len]; rfl
set_option maxRecDepth 20000 in
theorem elW : Elem Try.prog 53 87 (.agg (iv 0 :: iv 0 :: .int .u64 0 :: z8).toArray) 11 32 := ⟨rfl, rfl, rfl, by omega⟩
theorem mapM_some {α β : Type} {f : α → Option β} {g : α → β} : ∀ {l : List α}, (∀ a ∈ l, f a = some (g a)) → l.mapM f = some (l.map g)
  | [], _ => rfl
  | a :: l, h => by
    rw [List.mapM_cons, h a (List.mem_cons_self ..), mapM_some fun b hb => h b (List.mem_cons_of_mem _ hb)]; rfl
theorem kl_int {P : Program} {t : TypeId} {q : IntKind} {n : Int} {d : Nat} (hT : P.underlying t = some (.int q)) (h : (Lit.int q n).wf = true) : P.keyLits (d + 1) t [.int q n] = some [.int q n] := by
  unfold Program.keyLits; rw [hT]; exact if_pos ⟨rfl, h⟩
theorem kl_arr {P : Program} {t e : TypeId} {n d : Nat} {cs : List Value} {g : Nat → List Lit} (hT : P.underlying t = some (.array n e)) (hl : cs.length = P.cellsOf t) (h : ∀ i ∈ List.range n, P.keyLits d e ((cs.drop (i * P.cellsOf e)).take (P.cellsOf e)) = some (g i)) : P.keyLits (d + 1) t cs = some ((List.range n).map g).flatten := by
  unfold Program.keyLits; rw [hT]
  dsimp only
  rw [if_pos hl, mapM_some h]; rfl
theorem kl_struct {P : Program} {t : TypeId} {fs : Array Field} {d : Nat} {cs : List Value} {g : Field → List Lit} (hT : P.underlying t = some (.struct fs)) (hl : cs.length = P.cellsOf t) (hn : fs.all (·.name != "_") = true) (h : ∀ f ∈ fs.toList, P.keyLits d f.type ((cs.drop f.offset).take (P.cellsOf f.type)) = some (g f)) : P.keyLits (d + 1) t cs = some (fs.toList.map g).flatten := by
  unfold Program.keyLits; rw [hT]
  dsimp only
  rw [if_pos ⟨hl, hn⟩, mapM_some h]; rfl
theorem g_wf (x : G) : (Lit.int .u8 (x.val : Int)).wf = true := by
  have := x.lt
  show (decide (IntKind.u8.min ≤ (x.val : Int)) && decide ((x.val : Int) ≤ IntKind.u8.max)) = true
  exact Bool.and_eq_true_iff.2 ⟨decide_eq_true (show (0 : Int) ≤ (x.val : Int) by omega), decide_eq_true (show (x.val : Int) ≤ (255 : Int) by omega)⟩
set_option maxRecDepth 20000 in
theorem kl_blk (b : Blk) : Try.prog.keyLits 3 38 b.cells = some ((List.range 8).map fun i => [Lit.int .u8 (b.at i).val]).flatten := by
  refine kl_arr (e := 5) (n := 8) (by kernel_rfl) (by rw [Blk.len]; rfl) fun i hi => ?_
  have hi8 : i < 8 := List.mem_range.1 hi
  have hc : Try.prog.cellsOf 5 = 1 := by kernel_rfl
  have hg := b.get hi8
  have : (b.cells.drop (i * 1)).take 1 = [bv (b.at i)] := by
    rw [Nat.mul_one]
    obtain ⟨h1, h2⟩ := List.getElem?_eq_some_iff.1 hg
    rw [List.drop_eq_getElem_cons h1, h2]; rfl
  rw [hc, this]
  exact kl_int (by kernel_rfl) (g_wf _)
theorem mapM_ex {α β : Type} {f : α → Option β} : ∀ {l : List α}, (∀ a ∈ l, ∃ b, f a = some b) → ∃ bs, l.mapM f = some bs
  | [], _ => ⟨[], rfl⟩
  | a :: l, h => by
    obtain ⟨b, hb⟩ := h a (List.mem_cons_self ..)
    obtain ⟨bs, hbs⟩ := mapM_ex (l := l) fun c hc => h c (List.mem_cons_of_mem _ hc)
    exact ⟨b :: bs, by rw [List.mapM_cons, hb, hbs]; rfl⟩
theorem kl_struct_ex {P : Program} {t : TypeId} {fs : Array Field} {d : Nat} {cs : List Value} (hT : P.underlying t = some (.struct fs)) (hl : cs.length = P.cellsOf t) (hn : fs.all (·.name != "_") = true) (h : ∀ f ∈ fs.toList, ∃ l, P.keyLits d f.type ((cs.drop f.offset).take (P.cellsOf f.type)) = some l) : ∃ l, P.keyLits (d + 1) t cs = some l := by
  obtain ⟨bs, hb⟩ := mapM_ex h
  refine ⟨bs.flatten, ?_⟩
  unfold Program.keyLits; rw [hT]
  dsimp only
  rw [if_pos ⟨hl, hn⟩, hb]; rfl
/-- The numbers lie in their kinds. -/
def PWr.ok (x : PWr) : Prop := (Lit.int .i64 x.g).wf = true ∧ (Lit.int .i64 x.p).wf = true ∧ (Lit.int .u64 x.v).wf = true
set_option maxRecDepth 20000 in
theorem kl_pw (x : PWr) (h : x.ok) : ∃ l, Try.prog.keyLits 4 87 x.cells = some l := by
  obtain ⟨h1, h2, h3⟩ := h
  refine kl_struct_ex (fs := Try.prog.fieldsOf 87) (by kernel_rfl) (by rw [PWr.len]; rfl) (by kernel_rfl) fun f hf => ?_
  have hm : (f.offset, f.type) ∈ (Try.prog.fieldsOf 87).toList.map fun f => (f.offset, f.type) := List.mem_map_of_mem hf
  rw [show ((Try.prog.fieldsOf 87).toList.map fun f => (f.offset, f.type)) = [(0, 3), (1, 3), (2, 52), (3, 38)] from by kernel_rfl] at hm
  simp only [List.mem_cons, Prod.mk.injEq, List.not_mem_nil, or_false] at hm
  have ci : Try.prog.cellsOf 3 = 1 := by kernel_rfl
  have cu : Try.prog.cellsOf 52 = 1 := by kernel_rfl
  have cb : Try.prog.cellsOf 38 = 8 := by kernel_rfl
  rcases hm with ⟨e1, e2⟩ | ⟨e1, e2⟩ | ⟨e1, e2⟩ | ⟨e1, e2⟩
  · rw [e1, e2, ci]; exact ⟨_, kl_int (by kernel_rfl) h1⟩
  · rw [e1, e2, ci]; exact ⟨_, kl_int (by kernel_rfl) h2⟩
  · rw [e1, e2, cu]; exact ⟨_, kl_int (by kernel_rfl) h3⟩
  · rw [e1, e2, cb, show (x.cells.drop 3).take 8 = x.b.cells from List.take_of_length_le (by rw [show x.cells.drop 3 = x.b.cells from rfl, Blk.len]; exact Nat.le_refl _)]
    exact ⟨_, kl_blk _⟩
set_option maxRecDepth 20000 in
theorem pw_formed (x : PWr) : (Value.agg x.cells.toArray).formed Try.prog 87 = true := by
  obtain ⟨g, p, v, ⟨l, hl⟩⟩ := x
  match l, hl with
  | [b0, b1, b2, b3, b4, b5, b6, b7], _ => rfl
set_option maxRecDepth 20000 in
theorem pw_eq (x : PWr) (h : x.ok) : EqV Try.prog 87 (.agg x.cells.toArray) (.agg x.cells.toArray) true := by
  obtain ⟨l, hl⟩ := kl_pw x h
  exact EqV.keys (by kernel_rfl) (pw_formed x) (pw_formed x) hl hl ⟨fun _ => rfl, fun _ => rfl⟩
end Go.Proofs.Ytnkbnponpknokaa
namespace Go.Proofs.Ytnkbnponpknokaa
open Go.RowKit
attribute [local irreducible] Calls
/-- A piece is written. -/
def wrP (os ns : List Blk) (al : List Bool) (i : Nat) : Bool := decide (nth os i ≠ nth ns i) || nth al i
/-- The writes of some pieces. -/
def wrL (g v : Int) (ns : List Blk) (k : List Nat) : List PWr := k.map fun i : Nat => ⟨g, (i : Int), v, nth ns i⟩
theorem wrL_snoc (g v : Int) (ns : List Blk) (k : List Nat) (i : Nat) : pws (wrL g v ns k) ++ PWr.cells ⟨g, i, v, nth ns i⟩ = pws (wrL g v ns (k ++ [i])) := by
  unfold wrL pws; rw [List.map_append, List.flatMap_append]; simp
theorem wrL_len (g v : Int) (ns : List Blk) (k : List Nat) : (wrL g v ns k).length = k.length := by unfold wrL; rw [List.length_map]
set_option maxRecDepth 20000 in
theorem pw_spls (g p v : Int) (b : Blk) : spls (plT Try.prog 87) (iv 0 :: iv 0 :: .int .u64 0 :: z8) [(0, [iv g]), (1, [iv p]), (2, [.int .u64 v]), (3, b.cells)] = PWr.cells ⟨g, p, v, b⟩ := by
  obtain ⟨l, hl⟩ := b
  match l, hl with
  | [b0, b1, b2, b3, b4, b5, b6, b7], _ => rfl
set_option maxRecDepth 20000 in
set_option maxHeartbeats 4000000 in
theorem writes_n {w : World} {A B D : Option Addr} {ca cb cd n : Nat} {os ns : List Blk} {al : List Bool} (g v : Int) (ho : os.length = n) (hn : ns.length = n) (ha : al.length = n) (h1 : 4 ≤ n) (h2 : n ≤ 16) (hs : Sl w 8 (.slice A n ca) n (kvs os)) (hsn : Sl w 8 (.slice B n cb) n (kvs ns)) (hsa : Sl w 1 (.slice D n cd) n (bls al)) :
    Calls Try.prog 25 #[iv g, .slice A n ca, .slice B n cb, .int .u64 v, .slice D n cd] w fun e w' => ∃ v' M, e = .returned v' ∧ H w M w' ∧ ∃ F fc, v' = .tuple #[.slice F (numL (wrP os ns al) n).length fc, iv 0] ∧ M = [vec F (numL (wrP os ns al) n).length fc 87 11 (pws (wrL g v ns (numL (wrP os ns al) n)))] := by
  have hval : ∀ w', Calls Try.prog 41 #[iv n] w' fun e w2 => e = .returned (.bool true) ∧ Below w'.heap.size w' w2 := fun w' => by
    have := valid_i n w'
    rwa [decide_eq_true (by omega)] at this
  obtain ⟨P, hP⟩ : ∃ P, P = wrP os ns al := ⟨_, rfl⟩
  have hPi : ∀ i, P i = (decide (nth os i ≠ nth ns i) || nth al i) := fun i => by rw [hP]; rfl
  rw [← hP]
  clear hP
  refine calls_wc (args := [iv g, .slice A n ca, .slice B n cb, .int .u64 v, .slice D n cd]) [10, 11] [] Try.func25 rfl Try.ntmps25 rfl rfl rfl rfl (H.refl _) ?_
  (refine WC.seq ?_; intro K hK)
  refine WC.region rfl ?_
  refine WL.want rfl (WL1.give rfl (g_assign rfl (.mk (v := .slice _ _ _) rfl rfl)) ?_)
  refine WL.want rfl (WL1.give rfl (g_assign rfl (.mk (v := .int _ _) rfl rfl)) ?_)
  refine WL.nil ?_
  (refine hK _ _ ?_; clear hK)
  (refine WC.seq ?_; intro K hK)
  (refine WC.seq ?_; intro K hK)
  refine WC.region rfl ?_
  refine WL.want rfl (WL1.give rfl (g_move rfl (.mk (v := .slice _ _ _) rfl rfl)) ?_)
  refine WL.want rfl (WL1.give rfl (g_len rfl (.mk rfl rfl) rfl) ?_)
  refine WL.want rfl (WL1.callP rfl rfl rfl (.cons (.mk (v := .int _ _) rfl rfl) .nil) (fun w hw => hval w) ?_)
  refine WL.want rfl (WL1.give rfl (g_notT rfl (.mk rfl rfl)) ?_)
  refine WL.want rfl (WL1.give rfl (g_move rfl (.mk (v := .bool _) rfl rfl)) ?_)
  refine WL.wantG rfl rfl rfl rfl (WL1.give rfl (g_move rfl (.mk (v := .slice _ _ _) rfl rfl)) ?_)
  refine WL.wantG rfl rfl rfl rfl (WL1.give rfl (g_len rfl (.mk rfl rfl) rfl) ?_)
  refine WL.wantG rfl rfl rfl rfl (WL1.give rfl (g_move rfl (.mk (v := .slice _ _ _) rfl rfl)) ?_)
  refine WL.wantG rfl rfl rfl rfl (WL1.give rfl (g_len rfl (.mk rfl rfl) rfl) ?_)
  refine WL.wantG rfl rfl rfl rfl (WL1.give rfl (g_ne rfl (.mk rfl rfl) (.mk rfl rfl) (decide_eq_false (by omega))) ?_)
  refine WL.want rfl (WL1.give rfl (g_pickF rfl (.mk rfl rfl) (.mk (v := .bool _) rfl rfl)) ?_)
  refine WL.want rfl (WL1.give rfl (g_move rfl (.mk (v := .bool _) rfl rfl)) ?_)
  refine WL.wantG rfl rfl rfl rfl (WL1.give rfl (g_move rfl (.mk (v := .slice _ _ _) rfl rfl)) ?_)
  refine WL.wantG rfl rfl rfl rfl (WL1.give rfl (g_len rfl (.mk rfl rfl) rfl) ?_)
  refine WL.wantG rfl rfl rfl rfl (WL1.give rfl (g_move rfl (.mk (v := .slice _ _ _) rfl rfl)) ?_)
  refine WL.wantG rfl rfl rfl rfl (WL1.give rfl (g_len rfl (.mk rfl rfl) rfl) ?_)
  refine WL.wantG rfl rfl rfl rfl (WL1.give rfl (g_ne rfl (.mk rfl rfl) (.mk rfl rfl) (decide_eq_false (by omega))) ?_)
  refine WL.want rfl (WL1.give rfl (g_pickF rfl (.mk rfl rfl) (.mk (v := .bool _) rfl rfl)) ?_)
  refine WL.nil ?_
  (refine hK _ _ ?_; clear hK)
  refine WC.cond_false (.mk rfl rfl) ?_
  refine WC.skip ?_
  (refine hK _ _ ?_; clear hK)
  (refine WC.seq ?_; intro K hK)
  refine WC.region rfl ?_
  refine WL.want rfl (WL1.give rfl (g_assign rfl (.mk (v := .slice _ _ _) rfl rfl)) ?_)
  refine WL.nil ?_
  (refine hK _ _ ?_; clear hK)
  (refine WC.seq ?_; intro K hK)
  (refine WC.seq ?_; intro K hK)
  refine WC.region rfl ?_
  refine WL.want rfl (WL1.give rfl (g_move rfl (.mk (v := .slice _ _ _) rfl rfl)) ?_)
  refine WL.want rfl (WL1.give rfl (g_len rfl (.mk rfl rfl) rfl) ?_)
  refine WL.want rfl (WL1.give rfl (g_move rfl (.mk (v := .int _ _) rfl rfl)) ?_)
  refine WL.nil ?_
  (refine hK _ _ ?_; clear hK)
  refine WC.block ?_
  refine WC.nilvec 87 11 ?_
  
  refine WC.loopF3 (fun (i : Nat) (F : Option Addr) (fc : Nat) => [(34, iv i), (33, iv n), (12, .slice F (numL P i).length fc), (0, iv g), (1, .slice A n ca), (2, .slice B n cb), (3, .int .u64 v), (4, .slice D n cd)]) (fun i F fc => [vec F (numL P i).length fc 87 11 (pws (wrL g v ns (numL P i)))]) (fun i _ _ => i ≤ n) (fun i _ _ => n - i) 0 none 0 (by repeat (first | exact trivial | refine ⟨rfl, ?_⟩)) (Imp.pick (by repeat (first | exact .head | apply Take.tail)) (Imp.nil _)) (by omega) ?_
  intro i F fc U hi
  have hle := numL_le P i
  obtain ⟨k, hk⟩ : ∃ k, k = numL P i := ⟨_, rfl⟩
  rw [← hk] at hle ⊢
  by_cases hlt : i < n
  · have go : ∀ t u, (nth os i).cells[t]? = some u → (kvs os)[i * 8 + t]? = some u := fun t u h => flat_row blk8 (by omega) t u h
    have gn : ∀ t u, (nth ns i).cells[t]? = some u → (kvs ns)[i * 8 + t]? = some u := fun t u h => flat_row blk8 (by omega) t u h
    have gal := bls_get (l := al) (k := i) (by omega)
    have hst : P i = true → numL P (i + 1) = k ++ [i] := fun h => by rw [hk, numL, if_pos h]
    have hsf : P i = false → numL P (i + 1) = k := fun h => by rw [hk, numL, if_neg (by rw [h]; exact Bool.false_ne_true)]
    have hl1 : (k ++ [i]).length = k.length + 1 := by rw [List.length_append]; rfl
    have hw1 : pws (wrL g v ns k) ++ PWr.cells ⟨g, i, v, nth ns i⟩ = pws (wrL g v ns (k ++ [i])) := wrL_snoc g v ns k i
    have hPv := hPi i
    clear hPi hk hval
    by_cases hne : nth os i = nth ns i
    · have E := blk_eq hne
      cases hb : nth al i with
      | false =>
        rw [hb] at gal
        have hst := hsf (by rw [hPv, hb, decide_eq_false fun h => h hne]; rfl)
        (refine WC.seq ?_; intro K hK)
        refine WC.region rfl ?_
        refine WL.want rfl (WL1.give rfl (g_lt rfl (.mk rfl rfl) (.mk rfl rfl) (decide_eq_true (by omega))) ?_)
        refine WL.nil ?_
        (refine hK _ _ ?_; clear hK)
        (refine WC.seq ?_; intro K hK)
        refine WC.cond_true (.mk rfl rfl) ?_
        refine WC.skip ?_
        (refine hK _ _ ?_; clear hK)
        (refine WC.seq ?_; intro K hK)
        refine WC.block ?_
        (refine WC.seq ?_; intro K hK)
        refine WC.region rfl ?_
        refine WL.want rfl (WL1.give rfl (g_move rfl (.mk (v := .int _ _) rfl rfl)) ?_)
        refine WL.want rfl (WL1.give rfl (g_assign rfl (.mk (v := .int _ _) rfl rfl)) ?_)
        refine WL.nil ?_
        (refine hK _ _ ?_; clear hK)
        (refine WC.seq ?_; intro K hK)
        refine WC.quiet rfl (by kernel_rfl) (by decide +kernel) ?_
        refine WQ.want rfl (WQ1.give rfl (g_move rfl (.mk (v := .slice _ _ _) rfl rfl)) ?_)
        refine WQ.want rfl (WQ1.give rfl (g_move rfl (.mk (v := .int _ _) rfl rfl)) ?_)
        refine WQ.want rfl (WQ1.give rfl (g_indexAddr (sz := 8) rfl (.mk rfl rfl) (.mk rfl rfl) rfl rfl rfl (by omega) (fun _ _ => sl_some hs (by omega))) ?_)
        refine WQ.want rfl (WQ1.give rfl (g_loadA rfl (.mk rfl rfl) rfl (sz8 _) (rdr_sl hs (by omega) go)) ?_)
        refine WQ.want rfl (WQ1.give rfl (g_move rfl (.mk (v := .slice _ _ _) rfl rfl)) ?_)
        refine WQ.want rfl (WQ1.give rfl (g_move rfl (.mk (v := .int _ _) rfl rfl)) ?_)
        refine WQ.want rfl (WQ1.give rfl (g_indexAddr (sz := 8) rfl (.mk rfl rfl) (.mk rfl rfl) rfl rfl rfl (by omega) (fun _ _ => sl_some hsn (by omega))) ?_)
        refine WQ.want rfl (WQ1.give rfl (g_loadA rfl (.mk rfl rfl) rfl (sz8 _) (rdr_sl hsn (by omega) gn)) ?_)
        refine WQ.want rfl (WQ1.give rfl (g_ane (by kernel_rfl) rfl (.mk rfl rfl) (.mk rfl rfl) E) ?_)
        refine WQ.want rfl (WQ1.give rfl (g_move rfl (.mk (v := .bool _) rfl rfl)) ?_)
        refine WQ.wantG rfl rfl rfl rfl (WQ1.give rfl (g_move rfl (.mk (v := .slice _ _ _) rfl rfl)) ?_)
        refine WQ.wantG rfl rfl rfl rfl (WQ1.give rfl (g_move rfl (.mk (v := .int _ _) rfl rfl)) ?_)
        refine WQ.wantG rfl rfl rfl rfl (WQ1.give rfl (g_indexAddr (sz := 1) rfl (.mk rfl rfl) (.mk rfl rfl) rfl rfl rfl (by omega) (fun _ _ => sl_some hsa (by omega))) ?_)
        refine WQ.wantG rfl rfl rfl rfl (WQ1.give rfl (g_load rfl (.mk rfl rfl) rfl (rd_sl hsa gal)) ?_)
        refine WQ.want rfl (WQ1.give rfl (g_pickF rfl (.mk rfl rfl) (.mk (v := .bool _) rfl rfl)) ?_)
        refine WQ.nil ?_
        (refine hK _ _ ?_; clear hK)
        refine WC.cond_false (.mk rfl rfl) ?_
        refine WC.skip ?_
        (refine hK _ _ ?_; clear hK)
        refine WC.region rfl ?_
        refine WL.want rfl (WL1.give rfl (g_add rfl (.mk rfl rfl) (.mk rfl rfl) (IntWalk.i64_in _ (by omega))) ?_)
        refine WL.want rfl (WL1.give rfl (g_move rfl (.mk (v := .int _ _) rfl rfl)) ?_)
        refine WL.nil ?_
        exact ⟨i + 1, F, fc, by rw [hst]; exact (by repeat (first | exact trivial | refine ⟨rfl, ?_⟩)), by rw [hst]; exact .refl _, by omega, by omega⟩
      | true =>
        rw [hb] at gal
        have hst := hst (by rw [hPv, hb, Bool.or_true])
        (refine WC.seq ?_; intro K hK)
        refine WC.region rfl ?_
        refine WL.want rfl (WL1.give rfl (g_lt rfl (.mk rfl rfl) (.mk rfl rfl) (decide_eq_true (by omega))) ?_)
        refine WL.nil ?_
        (refine hK _ _ ?_; clear hK)
        (refine WC.seq ?_; intro K hK)
        refine WC.cond_true (.mk rfl rfl) ?_
        refine WC.skip ?_
        (refine hK _ _ ?_; clear hK)
        (refine WC.seq ?_; intro K hK)
        refine WC.block ?_
        (refine WC.seq ?_; intro K hK)
        refine WC.region rfl ?_
        refine WL.want rfl (WL1.give rfl (g_move rfl (.mk (v := .int _ _) rfl rfl)) ?_)
        refine WL.want rfl (WL1.give rfl (g_assign rfl (.mk (v := .int _ _) rfl rfl)) ?_)
        refine WL.nil ?_
        (refine hK _ _ ?_; clear hK)
        (refine WC.seq ?_; intro K hK)
        refine WC.quiet rfl (by kernel_rfl) (by decide +kernel) ?_
        refine WQ.want rfl (WQ1.give rfl (g_move rfl (.mk (v := .slice _ _ _) rfl rfl)) ?_)
        refine WQ.want rfl (WQ1.give rfl (g_move rfl (.mk (v := .int _ _) rfl rfl)) ?_)
        refine WQ.want rfl (WQ1.give rfl (g_indexAddr (sz := 8) rfl (.mk rfl rfl) (.mk rfl rfl) rfl rfl rfl (by omega) (fun _ _ => sl_some hs (by omega))) ?_)
        refine WQ.want rfl (WQ1.give rfl (g_loadA rfl (.mk rfl rfl) rfl (sz8 _) (rdr_sl hs (by omega) go)) ?_)
        refine WQ.want rfl (WQ1.give rfl (g_move rfl (.mk (v := .slice _ _ _) rfl rfl)) ?_)
        refine WQ.want rfl (WQ1.give rfl (g_move rfl (.mk (v := .int _ _) rfl rfl)) ?_)
        refine WQ.want rfl (WQ1.give rfl (g_indexAddr (sz := 8) rfl (.mk rfl rfl) (.mk rfl rfl) rfl rfl rfl (by omega) (fun _ _ => sl_some hsn (by omega))) ?_)
        refine WQ.want rfl (WQ1.give rfl (g_loadA rfl (.mk rfl rfl) rfl (sz8 _) (rdr_sl hsn (by omega) gn)) ?_)
        refine WQ.want rfl (WQ1.give rfl (g_ane (by kernel_rfl) rfl (.mk rfl rfl) (.mk rfl rfl) E) ?_)
        refine WQ.want rfl (WQ1.give rfl (g_move rfl (.mk (v := .bool _) rfl rfl)) ?_)
        refine WQ.wantG rfl rfl rfl rfl (WQ1.give rfl (g_move rfl (.mk (v := .slice _ _ _) rfl rfl)) ?_)
        refine WQ.wantG rfl rfl rfl rfl (WQ1.give rfl (g_move rfl (.mk (v := .int _ _) rfl rfl)) ?_)
        refine WQ.wantG rfl rfl rfl rfl (WQ1.give rfl (g_indexAddr (sz := 1) rfl (.mk rfl rfl) (.mk rfl rfl) rfl rfl rfl (by omega) (fun _ _ => sl_some hsa (by omega))) ?_)
        refine WQ.wantG rfl rfl rfl rfl (WQ1.give rfl (g_load rfl (.mk rfl rfl) rfl (rd_sl hsa gal)) ?_)
        refine WQ.want rfl (WQ1.give rfl (g_pickF rfl (.mk rfl rfl) (.mk (v := .bool _) rfl rfl)) ?_)
        refine WQ.nil ?_
        (refine hK _ _ ?_; clear hK)
        refine WC.cond_true (.mk rfl rfl) ?_
        refine WC.region rfl ?_
        refine WL.want rfl (WL1.give rfl (g_move rfl (.mk (v := .slice _ _ _) rfl rfl)) ?_)
        refine WL.want rfl (WL1.give rfl (g_move rfl (.mk (v := .int _ _) rfl rfl)) ?_)
        refine WL.want rfl (WL1.give rfl (g_move rfl (.mk (v := .int _ _) rfl rfl)) ?_)
        refine WL.want rfl (WL1.give rfl (g_move rfl (.mk (v := .int _ _) rfl rfl)) ?_)
        refine WL.want rfl (WL1.give rfl (g_move rfl (.mk (v := .slice _ _ _) rfl rfl)) ?_)
        refine WL.want rfl (WL1.give rfl (g_move rfl (.mk (v := .int _ _) rfl rfl)) ?_)
        refine WL.want rfl (WL1.give rfl (g_indexAddr (sz := 8) rfl (.mk rfl rfl) (.mk rfl rfl) rfl rfl rfl (by omega) (fun _ _ => sl_some hsn (by omega))) ?_)
        refine WL.want rfl (WL1.give rfl (g_loadA rfl (.mk rfl rfl) rfl (sz8 _) (rdr_sl hsn (by omega) gn)) ?_)
        refine WL.want rfl (WL1.give rfl (g_buildS (us := [(0, [_]), (1, [_]), (2, [_]), (3, (nth ns i).cells)]) (cs := PWr.cells ⟨g, i, v, nth ns i⟩) rfl rfl rfl rfl (.cons (.mk (v := .int _ _) rfl rfl) (.cons (.mk (v := .int _ _) rfl rfl) (.cons (.mk (v := .int _ _) rfl rfl) (.cons (.mk (v := .agg _) rfl rfl) .nil)))) rfl (fun p hp => by simp only [List.mem_cons, List.not_mem_nil, or_false] at hp; rcases hp with rfl | rfl | rfl | rfl <;> exact ⟨_, _, rfl, by first | rfl | exact Blk.len _, Nat.le_of_ble_eq_true rfl⟩) (pw_spls _ _ _ _)) ?_)
        refine WL.want rfl (WL1.lit elW rfl rfl rfl (.cons (.mk (v := .agg _) rfl rfl) .nil) rfl (by intro v hv; rw [List.mem_singleton] at hv; subst hv; show (PWr.cells _).toArray.size = 11; rw [List.size_toArray, PWr.len]) (List.append_nil _) rfl (fun b61 => ?_))
        refine WL.want rfl (WL1.append elW rfl rfl (.mk rfl rfl) (.mk rfl rfl) (.tail (.head)) (fun w hw => Sl.of_vec hw (.head _)) (PWr.one _) (by unfold maxLen; omega) (by omega) (fun A62 c62 => ?_))
        refine WL.want rfl (WL1.give rfl (g_assign rfl (.mk (v := .slice _ _ _) rfl rfl)) ?_)
        refine WL.nil ?_
        (refine hK _ _ ?_; clear hK)
        refine WC.region rfl ?_
        refine WL.want rfl (WL1.give rfl (g_add rfl (.mk rfl rfl) (.mk rfl rfl) (IntWalk.i64_in _ (by omega))) ?_)
        refine WL.want rfl (WL1.give rfl (g_move rfl (.mk (v := .int _ _) rfl rfl)) ?_)
        refine WL.nil ?_
        exact ⟨i + 1, A62, c62, by rw [hst, hl1]; exact (by repeat (first | exact trivial | refine ⟨rfl, ?_⟩)), by rw [hst, hl1, ← hw1]; exact Imp.pick (by repeat (first | exact .head | apply Take.tail)) (Imp.nil _), by omega, by omega⟩
    · have E := blk_ne hne
      have hst := hst (by rw [hPv, decide_eq_true hne]; rfl)
      (refine WC.seq ?_; intro K hK)
      refine WC.region rfl ?_
      refine WL.want rfl (WL1.give rfl (g_lt rfl (.mk rfl rfl) (.mk rfl rfl) (decide_eq_true (by omega))) ?_)
      refine WL.nil ?_
      (refine hK _ _ ?_; clear hK)
      (refine WC.seq ?_; intro K hK)
      refine WC.cond_true (.mk rfl rfl) ?_
      refine WC.skip ?_
      (refine hK _ _ ?_; clear hK)
      (refine WC.seq ?_; intro K hK)
      refine WC.block ?_
      (refine WC.seq ?_; intro K hK)
      refine WC.region rfl ?_
      refine WL.want rfl (WL1.give rfl (g_move rfl (.mk (v := .int _ _) rfl rfl)) ?_)
      refine WL.want rfl (WL1.give rfl (g_assign rfl (.mk (v := .int _ _) rfl rfl)) ?_)
      refine WL.nil ?_
      (refine hK _ _ ?_; clear hK)
      (refine WC.seq ?_; intro K hK)
      refine WC.quiet rfl (by kernel_rfl) (by decide +kernel) ?_
      refine WQ.want rfl (WQ1.give rfl (g_move rfl (.mk (v := .slice _ _ _) rfl rfl)) ?_)
      refine WQ.want rfl (WQ1.give rfl (g_move rfl (.mk (v := .int _ _) rfl rfl)) ?_)
      refine WQ.want rfl (WQ1.give rfl (g_indexAddr (sz := 8) rfl (.mk rfl rfl) (.mk rfl rfl) rfl rfl rfl (by omega) (fun _ _ => sl_some hs (by omega))) ?_)
      refine WQ.want rfl (WQ1.give rfl (g_loadA rfl (.mk rfl rfl) rfl (sz8 _) (rdr_sl hs (by omega) go)) ?_)
      refine WQ.want rfl (WQ1.give rfl (g_move rfl (.mk (v := .slice _ _ _) rfl rfl)) ?_)
      refine WQ.want rfl (WQ1.give rfl (g_move rfl (.mk (v := .int _ _) rfl rfl)) ?_)
      refine WQ.want rfl (WQ1.give rfl (g_indexAddr (sz := 8) rfl (.mk rfl rfl) (.mk rfl rfl) rfl rfl rfl (by omega) (fun _ _ => sl_some hsn (by omega))) ?_)
      refine WQ.want rfl (WQ1.give rfl (g_loadA rfl (.mk rfl rfl) rfl (sz8 _) (rdr_sl hsn (by omega) gn)) ?_)
      refine WQ.want rfl (WQ1.give rfl (g_ane (by kernel_rfl) rfl (.mk rfl rfl) (.mk rfl rfl) E) ?_)
      refine WQ.want rfl (WQ1.give rfl (g_move rfl (.mk (v := .bool _) rfl rfl)) ?_)
      refine WQ.skipG rfl rfl rfl rfl rfl rfl ?_
      refine WQ.skipG rfl rfl rfl rfl rfl rfl ?_
      refine WQ.skipG rfl rfl rfl rfl rfl rfl ?_
      refine WQ.skipG rfl rfl rfl rfl rfl rfl ?_
      refine WQ.want rfl (WQ1.give rfl (g_pickT rfl (.mk rfl rfl) (.mk (v := .bool _) rfl rfl)) ?_)
      refine WQ.nil ?_
      (refine hK _ _ ?_; clear hK)
      refine WC.cond_true (.mk rfl rfl) ?_
      refine WC.region rfl ?_
      refine WL.want rfl (WL1.give rfl (g_move rfl (.mk (v := .slice _ _ _) rfl rfl)) ?_)
      refine WL.want rfl (WL1.give rfl (g_move rfl (.mk (v := .int _ _) rfl rfl)) ?_)
      refine WL.want rfl (WL1.give rfl (g_move rfl (.mk (v := .int _ _) rfl rfl)) ?_)
      refine WL.want rfl (WL1.give rfl (g_move rfl (.mk (v := .int _ _) rfl rfl)) ?_)
      refine WL.want rfl (WL1.give rfl (g_move rfl (.mk (v := .slice _ _ _) rfl rfl)) ?_)
      refine WL.want rfl (WL1.give rfl (g_move rfl (.mk (v := .int _ _) rfl rfl)) ?_)
      refine WL.want rfl (WL1.give rfl (g_indexAddr (sz := 8) rfl (.mk rfl rfl) (.mk rfl rfl) rfl rfl rfl (by omega) (fun _ _ => sl_some hsn (by omega))) ?_)
      refine WL.want rfl (WL1.give rfl (g_loadA rfl (.mk rfl rfl) rfl (sz8 _) (rdr_sl hsn (by omega) gn)) ?_)
      refine WL.want rfl (WL1.give rfl (g_buildS (us := [(0, [_]), (1, [_]), (2, [_]), (3, (nth ns i).cells)]) (cs := PWr.cells ⟨g, i, v, nth ns i⟩) rfl rfl rfl rfl (.cons (.mk (v := .int _ _) rfl rfl) (.cons (.mk (v := .int _ _) rfl rfl) (.cons (.mk (v := .int _ _) rfl rfl) (.cons (.mk (v := .agg _) rfl rfl) .nil)))) rfl (fun p hp => by simp only [List.mem_cons, List.not_mem_nil, or_false] at hp; rcases hp with rfl | rfl | rfl | rfl <;> exact ⟨_, _, rfl, by first | rfl | exact Blk.len _, Nat.le_of_ble_eq_true rfl⟩) (pw_spls _ _ _ _)) ?_)
      refine WL.want rfl (WL1.lit elW rfl rfl rfl (.cons (.mk (v := .agg _) rfl rfl) .nil) rfl (by intro v hv; rw [List.mem_singleton] at hv; subst hv; show (PWr.cells _).toArray.size = 11; rw [List.size_toArray, PWr.len]) (List.append_nil _) rfl (fun b61 => ?_))
      refine WL.want rfl (WL1.append elW rfl rfl (.mk rfl rfl) (.mk rfl rfl) (.tail (.head)) (fun w hw => Sl.of_vec hw (.head _)) (PWr.one _) (by unfold maxLen; omega) (by omega) (fun A62 c62 => ?_))
      refine WL.want rfl (WL1.give rfl (g_assign rfl (.mk (v := .slice _ _ _) rfl rfl)) ?_)
      refine WL.nil ?_
      (refine hK _ _ ?_; clear hK)
      refine WC.region rfl ?_
      refine WL.want rfl (WL1.give rfl (g_add rfl (.mk rfl rfl) (.mk rfl rfl) (IntWalk.i64_in _ (by omega))) ?_)
      refine WL.want rfl (WL1.give rfl (g_move rfl (.mk (v := .int _ _) rfl rfl)) ?_)
      refine WL.nil ?_
      exact ⟨i + 1, A62, c62, by rw [hst, hl1]; exact (by repeat (first | exact trivial | refine ⟨rfl, ?_⟩)), by rw [hst, hl1, ← hw1]; exact Imp.pick (by repeat (first | exact .head | apply Take.tail)) (Imp.nil _), by omega, by omega⟩
  · obtain rfl : i = n := by omega
    (refine WC.seq ?_; intro K hK)
    refine WC.region rfl ?_
    refine WL.want rfl (WL1.give rfl (g_lt rfl (.mk rfl rfl) (.mk rfl rfl) (decide_eq_false (by omega))) ?_)
    refine WL.nil ?_
    (refine hK _ _ ?_; clear hK)
    (refine WC.seq ?_; intro K hK)
    refine WC.cond_false (.mk rfl rfl) ?_
    refine WC.exit ?_
    (clear hK; refine hK _ _ ?_; clear hK)
    (refine WC.seq ?_; intro K hK)
    refine WC.region rfl ?_
    refine WL.want rfl (WL1.give rfl (g_move rfl (.mk (v := .slice _ _ _) rfl rfl)) ?_)
    refine WL.want rfl (WL1.give rfl (g_assign rfl (.mk (v := .slice _ _ _) rfl rfl)) ?_)
    refine WL.want rfl (WL1.give rfl (g_assign rfl (.mk (v := .int _ _) rfl rfl)) ?_)
    refine WL.nil ?_
    (refine hK _ _ ?_; clear hK)
    refine WC.ret ?_
    exact fun w' hw' => ⟨_, _, rfl, hw', F, fc, by rw [← hk]; rfl, by rw [← hk]⟩
set_option maxRecDepth 20000 in
set_option maxHeartbeats 4000000 in
theorem writes_bad {w : World} {A B D : Option Addr} {ca cb cd n m k : Nat} (g v : Int) (xs ys zs : List Value) (h : ¬ ((4 ≤ (n : Int) ∧ (n : Int) ≤ 16) ∧ m = n ∧ k = n)) (hs : Sl w 8 (.slice A n ca) n xs) (hsn : Sl w 8 (.slice B m cb) m ys) (hsa : Sl w 1 (.slice D k cd) k zs) :
    Calls Try.prog 25 #[iv g, .slice A n ca, .slice B m cb, .int .u64 v, .slice D k cd] w fun e w' => e = .returned (.tuple #[.slice none 0 0, iv 1]) ∧ Below w.heap.size w w' := by
  have hval := valid_i n
  by_cases h1 : 4 ≤ (n : Int) ∧ (n : Int) ≤ 16
  · rw [decide_eq_true h1] at hval
    by_cases h2 : m = n
    · have h3 : ¬ k = n := fun q => h ⟨h1, h2, q⟩
      refine calls_wc (args := [iv g, .slice A n ca, .slice B m cb, .int .u64 v, .slice D k cd]) [10, 11] [] Try.func25 rfl Try.ntmps25 rfl rfl rfl rfl (H.refl _) ?_
      (refine WC.seq ?_; intro K hK)
      refine WC.region rfl ?_
      refine WL.want rfl (WL1.give rfl (g_assign rfl (.mk (v := .slice _ _ _) rfl rfl)) ?_)
      refine WL.want rfl (WL1.give rfl (g_assign rfl (.mk (v := .int _ _) rfl rfl)) ?_)
      refine WL.nil ?_
      (refine hK _ _ ?_; clear hK)
      (refine WC.seq ?_; intro K hK)
      (refine WC.seq ?_; intro K hK)
      refine WC.region rfl ?_
      refine WL.want rfl (WL1.give rfl (g_move rfl (.mk (v := .slice _ _ _) rfl rfl)) ?_)
      refine WL.want rfl (WL1.give rfl (g_len rfl (.mk rfl rfl) rfl) ?_)
      refine WL.want rfl (WL1.callP rfl rfl rfl (.cons (.mk (v := .int _ _) rfl rfl) .nil) (fun w hw => hval w) ?_)
      refine WL.want rfl (WL1.give rfl (g_notT rfl (.mk rfl rfl)) ?_)
      refine WL.want rfl (WL1.give rfl (g_move rfl (.mk (v := .bool _) rfl rfl)) ?_)
      refine WL.wantG rfl rfl rfl rfl (WL1.give rfl (g_move rfl (.mk (v := .slice _ _ _) rfl rfl)) ?_)
      refine WL.wantG rfl rfl rfl rfl (WL1.give rfl (g_len rfl (.mk rfl rfl) rfl) ?_)
      refine WL.wantG rfl rfl rfl rfl (WL1.give rfl (g_move rfl (.mk (v := .slice _ _ _) rfl rfl)) ?_)
      refine WL.wantG rfl rfl rfl rfl (WL1.give rfl (g_len rfl (.mk rfl rfl) rfl) ?_)
      refine WL.wantG rfl rfl rfl rfl (WL1.give rfl (g_ne rfl (.mk rfl rfl) (.mk rfl rfl) (decide_eq_false (by omega))) ?_)
      refine WL.want rfl (WL1.give rfl (g_pickF rfl (.mk rfl rfl) (.mk (v := .bool _) rfl rfl)) ?_)
      refine WL.want rfl (WL1.give rfl (g_move rfl (.mk (v := .bool _) rfl rfl)) ?_)
      refine WL.wantG rfl rfl rfl rfl (WL1.give rfl (g_move rfl (.mk (v := .slice _ _ _) rfl rfl)) ?_)
      refine WL.wantG rfl rfl rfl rfl (WL1.give rfl (g_len rfl (.mk rfl rfl) rfl) ?_)
      refine WL.wantG rfl rfl rfl rfl (WL1.give rfl (g_move rfl (.mk (v := .slice _ _ _) rfl rfl)) ?_)
      refine WL.wantG rfl rfl rfl rfl (WL1.give rfl (g_len rfl (.mk rfl rfl) rfl) ?_)
      refine WL.wantG rfl rfl rfl rfl (WL1.give rfl (g_ne rfl (.mk rfl rfl) (.mk rfl rfl) (decide_eq_true (by omega))) ?_)
      refine WL.want rfl (WL1.give rfl (g_pickF rfl (.mk rfl rfl) (.mk (v := .bool _) rfl rfl)) ?_)
      refine WL.nil ?_
      (refine hK _ _ ?_; clear hK)
      refine WC.cond_true (.mk rfl rfl) ?_
      (refine WC.seq ?_; intro K hK)
      refine WC.region rfl ?_
      refine WL.want rfl (WL1.give rfl (g_assign rfl (.mk (v := .slice _ _ _) rfl rfl)) ?_)
      refine WL.want rfl (WL1.give rfl (g_assign rfl (.mk (v := .int _ _) rfl rfl)) ?_)
      refine WL.nil ?_
      (refine hK _ _ ?_; clear hK)
      refine WC.ret ?_
      exact fun w' hw' => ⟨rfl, hw'.1⟩
    · refine calls_wc (args := [iv g, .slice A n ca, .slice B m cb, .int .u64 v, .slice D k cd]) [10, 11] [] Try.func25 rfl Try.ntmps25 rfl rfl rfl rfl (H.refl _) ?_
      (refine WC.seq ?_; intro K hK)
      refine WC.region rfl ?_
      refine WL.want rfl (WL1.give rfl (g_assign rfl (.mk (v := .slice _ _ _) rfl rfl)) ?_)
      refine WL.want rfl (WL1.give rfl (g_assign rfl (.mk (v := .int _ _) rfl rfl)) ?_)
      refine WL.nil ?_
      (refine hK _ _ ?_; clear hK)
      (refine WC.seq ?_; intro K hK)
      (refine WC.seq ?_; intro K hK)
      refine WC.region rfl ?_
      refine WL.want rfl (WL1.give rfl (g_move rfl (.mk (v := .slice _ _ _) rfl rfl)) ?_)
      refine WL.want rfl (WL1.give rfl (g_len rfl (.mk rfl rfl) rfl) ?_)
      refine WL.want rfl (WL1.callP rfl rfl rfl (.cons (.mk (v := .int _ _) rfl rfl) .nil) (fun w hw => hval w) ?_)
      refine WL.want rfl (WL1.give rfl (g_notT rfl (.mk rfl rfl)) ?_)
      refine WL.want rfl (WL1.give rfl (g_move rfl (.mk (v := .bool _) rfl rfl)) ?_)
      refine WL.wantG rfl rfl rfl rfl (WL1.give rfl (g_move rfl (.mk (v := .slice _ _ _) rfl rfl)) ?_)
      refine WL.wantG rfl rfl rfl rfl (WL1.give rfl (g_len rfl (.mk rfl rfl) rfl) ?_)
      refine WL.wantG rfl rfl rfl rfl (WL1.give rfl (g_move rfl (.mk (v := .slice _ _ _) rfl rfl)) ?_)
      refine WL.wantG rfl rfl rfl rfl (WL1.give rfl (g_len rfl (.mk rfl rfl) rfl) ?_)
      refine WL.wantG rfl rfl rfl rfl (WL1.give rfl (g_ne rfl (.mk rfl rfl) (.mk rfl rfl) (decide_eq_true (by omega))) ?_)
      refine WL.want rfl (WL1.give rfl (g_pickF rfl (.mk rfl rfl) (.mk (v := .bool _) rfl rfl)) ?_)
      refine WL.want rfl (WL1.give rfl (g_move rfl (.mk (v := .bool _) rfl rfl)) ?_)
      refine WL.skipG rfl rfl rfl rfl rfl rfl ?_
      refine WL.skipG rfl rfl rfl rfl rfl rfl ?_
      refine WL.skipG rfl rfl rfl rfl rfl rfl ?_
      refine WL.skipG rfl rfl rfl rfl rfl rfl ?_
      refine WL.skipG rfl rfl rfl rfl rfl rfl ?_
      refine WL.want rfl (WL1.give rfl (g_pickT rfl (.mk rfl rfl) (.mk (v := .bool _) rfl rfl)) ?_)
      refine WL.nil ?_
      (refine hK _ _ ?_; clear hK)
      refine WC.cond_true (.mk rfl rfl) ?_
      (refine WC.seq ?_; intro K hK)
      refine WC.region rfl ?_
      refine WL.want rfl (WL1.give rfl (g_assign rfl (.mk (v := .slice _ _ _) rfl rfl)) ?_)
      refine WL.want rfl (WL1.give rfl (g_assign rfl (.mk (v := .int _ _) rfl rfl)) ?_)
      refine WL.nil ?_
      (refine hK _ _ ?_; clear hK)
      refine WC.ret ?_
      exact fun w' hw' => ⟨rfl, hw'.1⟩
  · rw [decide_eq_false h1] at hval
    refine calls_wc (args := [iv g, .slice A n ca, .slice B m cb, .int .u64 v, .slice D k cd]) [10, 11] [] Try.func25 rfl Try.ntmps25 rfl rfl rfl rfl (H.refl _) ?_
    (refine WC.seq ?_; intro K hK)
    refine WC.region rfl ?_
    refine WL.want rfl (WL1.give rfl (g_assign rfl (.mk (v := .slice _ _ _) rfl rfl)) ?_)
    refine WL.want rfl (WL1.give rfl (g_assign rfl (.mk (v := .int _ _) rfl rfl)) ?_)
    refine WL.nil ?_
    (refine hK _ _ ?_; clear hK)
    (refine WC.seq ?_; intro K hK)
    (refine WC.seq ?_; intro K hK)
    refine WC.region rfl ?_
    refine WL.want rfl (WL1.give rfl (g_move rfl (.mk (v := .slice _ _ _) rfl rfl)) ?_)
    refine WL.want rfl (WL1.give rfl (g_len rfl (.mk rfl rfl) rfl) ?_)
    refine WL.want rfl (WL1.callP rfl rfl rfl (.cons (.mk (v := .int _ _) rfl rfl) .nil) (fun w hw => hval w) ?_)
    refine WL.want rfl (WL1.give rfl (g_notF rfl (.mk rfl rfl)) ?_)
    refine WL.want rfl (WL1.give rfl (g_move rfl (.mk (v := .bool _) rfl rfl)) ?_)
    refine WL.skipG rfl rfl rfl rfl rfl rfl ?_
    refine WL.skipG rfl rfl rfl rfl rfl rfl ?_
    refine WL.skipG rfl rfl rfl rfl rfl rfl ?_
    refine WL.skipG rfl rfl rfl rfl rfl rfl ?_
    refine WL.skipG rfl rfl rfl rfl rfl rfl ?_
    refine WL.want rfl (WL1.give rfl (g_pickT rfl (.mk rfl rfl) (.mk (v := .bool _) rfl rfl)) ?_)
    refine WL.want rfl (WL1.give rfl (g_move rfl (.mk (v := .bool _) rfl rfl)) ?_)
    refine WL.skipG rfl rfl rfl rfl rfl rfl ?_
    refine WL.skipG rfl rfl rfl rfl rfl rfl ?_
    refine WL.skipG rfl rfl rfl rfl rfl rfl ?_
    refine WL.skipG rfl rfl rfl rfl rfl rfl ?_
    refine WL.skipG rfl rfl rfl rfl rfl rfl ?_
    refine WL.want rfl (WL1.give rfl (g_pickT rfl (.mk rfl rfl) (.mk (v := .bool _) rfl rfl)) ?_)
    refine WL.nil ?_
    (refine hK _ _ ?_; clear hK)
    refine WC.cond_true (.mk rfl rfl) ?_
    (refine WC.seq ?_; intro K hK)
    refine WC.region rfl ?_
    refine WL.want rfl (WL1.give rfl (g_assign rfl (.mk (v := .slice _ _ _) rfl rfl)) ?_)
    refine WL.want rfl (WL1.give rfl (g_assign rfl (.mk (v := .int _ _) rfl rfl)) ?_)
    refine WL.nil ?_
    (refine hK _ _ ?_; clear hK)
    refine WC.ret ?_
    exact fun w' hw' => ⟨rfl, hw'.1⟩
end Go.Proofs.Ytnkbnponpknokaa
