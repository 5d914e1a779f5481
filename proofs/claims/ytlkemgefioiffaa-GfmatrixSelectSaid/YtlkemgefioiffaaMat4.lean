/- Mul and Transpose, walked. No condition. -/
import Derived.Test.YtlkemgefioiffaaMat3
namespace Go.Proofs.Ytlkemgefioiffaa
open Go.RowKit
attribute [local irreducible] Calls
/-- Row i of the product, of the first k terms. -/
def mrow (a b : List (List G)) (c i k : Nat) : List G := (List.range c).map fun j => gsum k fun n => el a i n * el b n j
theorem mrow_len (a b : List (List G)) (c i k : Nat) : (mrow a b c i k).length = c := by simp [mrow]
def mulM (a b : List (List G)) : List (List G) := (List.range a.length).map fun i => mrow a b (nth b 0).length i b.length
theorem mrow_zero (a b : List (List G)) (c i : Nat) : mrow a b c i 0 = zrow c := by
  refine list_ext_nth (by rw [mrow_len, zrow_len]) fun j hj => ?_
  rw [mrow_len] at hj
  rw [mrow, nth_range _ hj, zrow_nth hj]; rfl
theorem mrow_step {a b : List (List G)} {c i k : Nat} (hb : (nth b k).length = c) : gfused (mrow a b c i k) (nth b k) (el a i k) = mrow a b c i (k + 1) := by
  rw [gfused_map (n := c) _ (mrow_len _ _ _ _ _) hb]
  refine List.map_congr_left fun j hj => ?_
  have hj' : j < c := by simpa using hj
  rw [mrow, nth_range _ hj']; rfl
set_option maxRecDepth 20000 in
set_option maxHeartbeats 2000000 in
theorem mul_n (va vb : Value) (ra rb : List Row) (w : World) (ha : MatAt w va ra) (hb : MatAt w vb rb) (hg : Good (els ra)) (hgb : Good (els rb)) (hl : (nth ra 0).l.length = rb.length) :
    Calls Try.prog 29 #[va, vb] w fun e w' => ∃ v' M, e = .returned v' ∧ H w M w' ∧ ∃ A cc rs, v' = .tuple #[.slice A rs.length cc, iv 0] ∧ M = matM A cc rs ∧ els rs = mulM (els ra) (els rb) ∧ rs.length = ra.length := by
  obtain ⟨A, c, rfl, hc, hm, hs⟩ := ha.1.open_
  obtain ⟨A2, c2, rfl, hc2, hm2, hs2⟩ := hb.1.open_
  have hval := fun w' hb => valid_e _ ra w' (ha.below (w' := w') hb)
  have hval2 := fun w' hx => valid_e _ rb w' (hb.below (w' := w') hx)
  rw [goodB_iff.2 hg] at hval
  rw [goodB_iff.2 hgb] at hval2
  obtain ⟨g1, g2, g3, g4⟩ := hg.parts
  obtain ⟨q1, q2, q3, q4⟩ := hgb.parts
  refine calls_wc (args := [.slice A ra.length c, .slice A2 rb.length c2]) [4, 5] [] Try.func29 rfl Try.ntmps29 rfl rfl rfl rfl (H.refl w) ?_
  (refine WC.seq ?_; intro K hK)
  refine WC.region rfl ?_
  refine WL.want rfl (WL1.give rfl (g_assign rfl (.mk (v := .slice _ _ _) rfl rfl)) ?_)
  refine WL.want rfl (WL1.give rfl (g_assign rfl (.mk (v := .int _ _) rfl rfl)) ?_)
  refine WL.nil ?_
  (refine hK _ _ ?_; clear hK)
  (refine WC.seq ?_; intro K hK)
  (refine WC.seq ?_; intro K hK)
  refine WC.region rfl ?_
  refine WL.want rfl (WL1.give rfl (g_move rfl (.mk (v := .slice _ _ _) rfl rfl)) ?_)
  refine WL.want rfl (WL1.callP rfl rfl rfl (.cons (.mk (v := .slice _ _ _) rfl rfl) .nil) (fun w hw => hval w hw.1) ?_)
  refine WL.want rfl (WL1.give rfl (g_notT rfl (.mk rfl rfl)) ?_)
  refine WL.want rfl (WL1.give rfl (g_move rfl (.mk (v := .bool _) rfl rfl)) ?_)
  refine WL.wantG rfl rfl rfl rfl (WL1.give rfl (g_move rfl (.mk (v := .slice _ _ _) rfl rfl)) ?_)
  refine WL.wantG rfl rfl rfl rfl (WL1.callP rfl rfl rfl (.cons (.mk (v := .slice _ _ _) rfl rfl) .nil) (fun w hw => hval2 w hw.1) ?_)
  refine WL.wantG rfl rfl rfl rfl (WL1.give rfl (g_notT rfl (.mk rfl rfl)) ?_)
  refine WL.want rfl (WL1.give rfl (g_pickF rfl (.mk rfl rfl) (.mk (v := .bool _) rfl rfl)) ?_)
  refine WL.want rfl (WL1.give rfl (g_move rfl (.mk (v := .bool _) rfl rfl)) ?_)
  refine WL.wantG rfl rfl rfl rfl (WL1.give rfl (g_move rfl (.mk (v := .slice _ _ _) rfl rfl)) ?_)
  refine WL.wantG rfl rfl rfl rfl (WL1.give rfl (g_indexAddr (sz := 1) rfl (.mk rfl rfl) (.mk rfl rfl) rfl rfl (show _ = ((0 : Nat) : Int) from rfl) (by omega) (fun _ _ => sl_some hs (by omega))) ?_)
  refine WL.wantG rfl rfl rfl rfl (WL1.give rfl (g_load rfl (.mk rfl rfl) rfl (rd_sl hs (get1 (by omega)))) ?_)
  refine WL.wantG rfl rfl rfl rfl (WL1.give rfl (g_len rfl (.mk rfl rfl) rfl) ?_)
  refine WL.wantG rfl rfl rfl rfl (WL1.give rfl (g_move rfl (.mk (v := .slice _ _ _) rfl rfl)) ?_)
  refine WL.wantG rfl rfl rfl rfl (WL1.give rfl (g_len rfl (.mk rfl rfl) rfl) ?_)
  refine WL.wantG rfl rfl rfl rfl (WL1.give rfl (g_ne rfl (.mk rfl rfl) (.mk rfl rfl) (decide_eq_false (by omega))) ?_)
  refine WL.want rfl (WL1.give rfl (g_pickF rfl (.mk rfl rfl) (.mk (v := .bool _) rfl rfl)) ?_)
  refine WL.nil ?_
  (refine hK _ _ ?_; clear hK)
  refine WC.cond_false (.mk rfl rfl) ?_
  refine WC.skip ?_
  (refine hK _ _ ?_; clear hK)
  (refine WC.seq ?_; intro K hK)
  refine WC.region rfl ?_
  refine WL.want rfl (WL1.give rfl (g_move rfl (.mk (v := .slice _ _ _) rfl rfl)) ?_)
  refine WL.want rfl (WL1.give rfl (g_len rfl (.mk rfl rfl) rfl) ?_)
  refine WL.want rfl (WL1.give rfl (g_move rfl (.mk (v := .slice _ _ _) rfl rfl)) ?_)
  refine WL.want rfl (WL1.give rfl (g_indexAddr (sz := 1) rfl (.mk rfl rfl) (.mk rfl rfl) rfl rfl (show _ = ((0 : Nat) : Int) from rfl) (by omega) (fun _ _ => sl_some hs2 (by omega))) ?_)
  refine WL.want rfl (WL1.give rfl (g_load rfl (.mk rfl rfl) rfl (rd_sl hs2 (get1 (by omega)))) ?_)
  refine WL.want rfl (WL1.give rfl (g_len rfl (.mk rfl rfl) rfl) ?_)
  (refine WL.want rfl (WL1.callN rfl rfl rfl (.cons (.mk (v := .int _ _) rfl rfl) (.cons (.mk (v := .int _ _) rfl rfl) .nil)) (fun w hw => blank_n ra.length (nth rb 0).l.length w (by omega) (by omega)) ?_); rintro _ _ ⟨Ao, co, r0, rfl, rfl, hre0, hrl0⟩)
  refine WL.want rfl (WL1.give rfl (g_assign rfl (.mk (v := .slice _ _ _) rfl rfl)) ?_)
  refine WL.nil ?_
  (refine hK _ _ ?_; clear hK)
  (refine WC.seq ?_; intro K hK)
  (refine WC.seq ?_; intro K hK)
  refine WC.region rfl ?_
  refine WL.want rfl (WL1.give rfl (g_move rfl (.mk (v := .slice _ _ _) rfl rfl)) ?_)
  refine WL.want rfl (WL1.give rfl (g_len rfl (.mk rfl rfl) rfl) ?_)
  refine WL.want rfl (WL1.give rfl (g_move rfl (.mk (v := .int _ _) rfl rfl)) ?_)
  refine WL.nil ?_
  (refine hK _ _ ?_; clear hK)
  refine WC.block ?_
  obtain ⟨F, hF⟩ : ∃ F, F = fun i => mrow (els ra) (els rb) (nth rb 0).l.length i rb.length := ⟨_, rfl⟩
  obtain ⟨z, hz⟩ : ∃ z, z = zrow (nth rb 0).l.length := ⟨_, rfl⟩
  refine WC.loopI2 (147573952452237461376) (fun (i : Nat) (rs : List Row) => [(37, iv i)]) (fun i rs => [vec Ao r0.length co 28 1 (rs.map Row.v), rowsA rs]) (fun i rs => i ≤ ra.length ∧ rs.length = ra.length ∧ els rs = prg ra.length F z z i) (fun i _ => ra.length - i) 0 r0 ⟨rfl, trivial⟩ (by rw [List.append_nil]; exact .refl _) ⟨by omega, hrl0, by rw [hre0, hz, prg_zero]⟩ ?_
  rintro i rs U ⟨hi, hrl, hre⟩
  by_cases hlt : i < ra.length
  · have hral := hg.row hlt
    (refine WC.seq ?_; intro K hK)
    refine WC.region rfl ?_
    refine WL.want rfl (WL1.give rfl (g_lt rfl (.mk rfl rfl) (.mk rfl rfl) (decide_eq_true (by omega))) ?_)
    refine WL.nil ?_
    (refine hK _ _ ?_; clear hK)
    (refine WC.seq ?_; intro K hK)
    refine WC.cond_true (.mk rfl rfl) ?_
    refine WC.skip ?_
    (refine hK _ _ ?_; clear hK)
    (refine WC.seq ?_; intro K hK)
    refine WC.block ?_
    (refine WC.seq ?_; intro K hK)
    refine WC.region rfl ?_
    refine WL.want rfl (WL1.give rfl (g_move rfl (.mk (v := .int _ _) rfl rfl)) ?_)
    refine WL.want rfl (WL1.give rfl (g_indexAddr (sz := 1) rfl (.mk rfl rfl) (.mk rfl rfl) rfl rfl rfl (by omega) (fun _ _ => sl_some hs (by omega))) ?_)
    refine WL.want rfl (WL1.give rfl (g_load rfl (.mk rfl rfl) rfl (rd_sl hs (get1 (by omega)))) ?_)
    refine WL.want rfl (WL1.give rfl (g_assign rfl (.mk (v := .int _ _) rfl rfl)) ?_)
    refine WL.want rfl (WL1.give rfl (g_assign rfl (.mk (v := .slice _ _ _) rfl rfl)) ?_)
    refine WL.nil ?_
    (refine hK _ _ ?_; clear hK)
    (refine WC.seq ?_; intro K hK)
    refine WC.region rfl ?_
    refine WL.want rfl (WL1.give rfl (g_move rfl (.mk (v := .slice _ _ _) rfl rfl)) ?_)
    refine WL.want rfl (WL1.give rfl (g_len rfl (.mk rfl rfl) rfl) ?_)
    refine WL.want rfl (WL1.give rfl (g_move rfl (.mk (v := .int _ _) rfl rfl)) ?_)
    refine WL.nil ?_
    (refine hK _ _ ?_; clear hK)
    refine WC.block ?_
    refine WC.loopI2 (73786958702652163584) (fun (k : Nat) (rs : List Row) => [(44, iv k)]) (fun k rs => [vec Ao r0.length co 28 1 (rs.map Row.v), rowsA rs]) (fun k rs => k ≤ rb.length ∧ rs.length = ra.length ∧ els rs = prg ra.length F z (mrow (els ra) (els rb) (nth rb 0).l.length i k) i) (fun k _ => rb.length - k) 0 rs ⟨rfl, trivial⟩ (.refl _) ⟨by omega, hrl, by rw [hre, mrow_zero, hz]⟩ ?_
    rintro k rs U ⟨hk, hrl, hre⟩
    by_cases hlt2 : k < rb.length
    · have hrbl := hgb.row hlt2
      have hri : (nth rs i).l = mrow (els ra) (els rb) (nth rb 0).l.length i k := by rw [els_row hre (by omega), prg_at hlt]
      have hrll : (nth rs i).l.length = (nth rb 0).l.length := by rw [hri, mrow_len]
      have hgf : gfused (nth rs i).l (nth rb k).l (nth (nth ra i).l k) = mrow (els ra) (els rb) (nth rb 0).l.length i (k + 1) := by
        rw [hri, el_row hlt, ← els_at hlt2]; exact mrow_step (by rw [els_at hlt2]; exact hrbl)
      have hgl : (gfused (nth rs i).l (nth rb k).l (nth (nth ra i).l k)).length = (nth rs i).l.length := gfused_length _ _ _ (by omega)
      (refine WC.seq ?_; intro K hK)
      refine WC.region rfl ?_
      refine WL.want rfl (WL1.give rfl (g_lt rfl (.mk rfl rfl) (.mk rfl rfl) (decide_eq_true (by omega))) ?_)
      refine WL.nil ?_
      (refine hK _ _ ?_; clear hK)
      (refine WC.seq ?_; intro K hK)
      refine WC.cond_true (.mk rfl rfl) ?_
      refine WC.skip ?_
      (refine hK _ _ ?_; clear hK)
      (refine WC.seq ?_; intro K hK)
      refine WC.block ?_
      (refine WC.seq ?_; intro K hK)
      refine WC.region rfl ?_
      refine WL.want rfl (WL1.give rfl (g_move rfl (.mk (v := .int _ _) rfl rfl)) ?_)
      refine WL.want rfl (WL1.give rfl (g_indexAddr (sz := 1) rfl (.mk rfl rfl) (.mk rfl rfl) rfl rfl rfl (by omega) (fun _ _ => sl_some (ha.row (by omega)) (by omega))) ?_)
      refine WL.want rfl (WL1.give rfl (g_load rfl (.mk rfl rfl) rfl (rd_sl (ha.row (by omega)) (get1 (by omega)))) ?_)
      refine WL.want rfl (WL1.give rfl (g_assign rfl (.mk (v := .int _ _) rfl rfl)) ?_)
      refine WL.want rfl (WL1.give rfl (g_assign rfl (.mk (v := .int _ _) rfl rfl)) ?_)
      refine WL.nil ?_
      (refine hK _ _ ?_; clear hK)
      refine WC.split 0 rfl (by kernel_rfl) (by decide +kernel) ?_
      refine WQ.nil ?_
      refine WY.take 0 rfl (by decide +kernel) (by decide +kernel) (by decide +kernel) rfl rfl (g_move rfl (.mk (v := .slice _ _ _) rfl rfl)) ?_
      refine WY.take 1 rfl (by decide +kernel) (by decide +kernel) (by decide +kernel) rfl rfl (g_move rfl (.mk (v := .int _ _) rfl rfl)) ?_
      refine WY.take 2 rfl (by decide +kernel) (by decide +kernel) (by decide +kernel) rfl rfl (g_move rfl (.mk (v := .slice _ _ _) rfl rfl)) ?_
      refine WY.take 3 rfl (by decide +kernel) (by decide +kernel) (by decide +kernel) rfl rfl (g_move rfl (.mk (v := .int _ _) rfl rfl)) ?_
      refine WY.take 6 rfl (by decide +kernel) (by decide +kernel) (by decide +kernel) rfl rfl (g_move rfl (.mk (v := .slice _ _ _) rfl rfl)) ?_
      refine WY.take 7 rfl (by decide +kernel) (by decide +kernel) (by decide +kernel) rfl rfl (g_move rfl (.mk (v := .int _ _) rfl rfl)) ?_
      refine WY.take 8 rfl (by decide +kernel) (by decide +kernel) (by decide +kernel) rfl rfl (g_indexAddr (sz := 1) rfl (.mk rfl rfl) (.mk rfl rfl) rfl rfl rfl (by omega) (fun _ _ => sl_some hs2 (by omega))) ?_
      refine WY.take 10 rfl (by decide +kernel) (by decide +kernel) (by decide +kernel) rfl rfl (g_move rfl (.mk (v := .int _ _) rfl rfl)) ?_
      refine WY.two 4 9 (by decide +kernel) rfl rfl rfl rfl ?_ ?_
      refine WL1.give rfl (g_indexAddr (sz := 1) rfl (.mk rfl rfl) (.mk rfl rfl) rfl rfl rfl (by omega) (fun w hw => vec_some hw (.head _) (by omega))) ?_
      refine WL.nil ?_
      refine WY.two 5 9 (by decide +kernel) rfl rfl rfl rfl ?_ ?_
      refine WL1.give rfl (g_load rfl (.mk rfl rfl) rfl (rd_vec (.head _) (get1 (by omega)))) ?_
      refine WL.nil ?_
      refine WY.one 9 (by decide +kernel) rfl rfl ?_
      refine WL1.give rfl (g_load rfl (.mk rfl rfl) rfl (rd_sl hs2 (get1 (by omega)))) ?_
      refine WL.nil ?_
      refine WY.one 11 (by decide +kernel) rfl rfl ?_
      (refine WL1.callN rfl rfl rfl (.cons (.mk (v := .slice _ _ _) rfl rfl) (.cons (.mk (v := .slice _ _ _) rfl rfl) (.cons (.mk (v := .int _ _) rfl rfl) .nil))) (fun w hw => fused_n _ _ (nth rs i).l (nth rb k).l (nth (nth ra i).l k) w (Sl.of_rowA hw (by repeat (first | exact .head _ | apply List.Mem.tail)) (by omega)) ((hb.row hlt2).below hw.1) (by omega) (by omega)) ?_; rintro _ _ ⟨Af, cf, rfl, rfl⟩)
      refine WL.nil ?_
      refine WY.take 12 rfl (by decide +kernel) (by decide +kernel) (by decide +kernel) rfl rfl (g_move rfl (.mk (v := .tuple _) rfl rfl)) ?_
      refine WY.take 13 rfl (by decide +kernel) (by decide +kernel) (by decide +kernel) rfl rfl (g_extract rfl (.mk rfl rfl) rfl) ?_
      refine WY.take 14 rfl (by decide +kernel) (by decide +kernel) (by decide +kernel) rfl rfl (g_extract rfl (.mk rfl rfl) rfl) ?_
      refine WY.one 15 (by decide +kernel) rfl rfl ?_
      refine WL1.give rfl (g_indexAddr (sz := 1) rfl (.mk rfl rfl) (.mk rfl rfl) rfl rfl rfl (by omega) (fun w hw => vec_some hw (.tail _ (.head _)) (by omega))) ?_
      refine WL.nil ?_
      refine WY.one 16 (by decide +kernel) rfl rfl ?_
      refine WL1.storeV1 rfl rfl (.mk rfl rfl) (.mk rfl rfl) rfl rfl (by first | omega | (simp; done) | (simp; omega)) (.tail (.head)) ?_
      refine WL.nil ?_
      refine WY.done (by decide +kernel) ?_
      (refine hK _ _ ?_; clear hK)
      refine WC.region rfl ?_
      refine WL.want rfl (WL1.give rfl (g_add rfl (.mk rfl rfl) (.mk rfl rfl) (IntWalk.i64_in _ (by omega))) ?_)
      refine WL.want rfl (WL1.give rfl (g_move rfl (.mk (v := .int _ _) rfl rfl)) ?_)
      refine WL.nil ?_
      rotate_left
      refine WL1.give rfl (g_load rfl (.mk rfl rfl) rfl (rd_sl hs2 (get1 (by omega)))) ?_
      refine WL.nil ?_
      refine WY.one 5 (by decide +kernel) rfl rfl ?_
      refine WL1.give rfl (g_load rfl (.mk rfl rfl) rfl (rd_vec (.head _) (get1 (by omega)))) ?_
      refine WL.nil ?_
      refine WY.one 11 (by decide +kernel) rfl rfl ?_
      (refine WL1.callN rfl rfl rfl (.cons (.mk (v := .slice _ _ _) rfl rfl) (.cons (.mk (v := .slice _ _ _) rfl rfl) (.cons (.mk (v := .int _ _) rfl rfl) .nil))) (fun w hw => fused_n _ _ (nth rs i).l (nth rb k).l (nth (nth ra i).l k) w (Sl.of_rowA hw (by repeat (first | exact .head _ | apply List.Mem.tail)) (by omega)) ((hb.row hlt2).below hw.1) (by omega) (by omega)) ?_; rintro _ _ ⟨Af, cf, rfl, rfl⟩)
      refine WL.nil ?_
      refine WY.take 12 rfl (by decide +kernel) (by decide +kernel) (by decide +kernel) rfl rfl (g_move rfl (.mk (v := .tuple _) rfl rfl)) ?_
      refine WY.take 13 rfl (by decide +kernel) (by decide +kernel) (by decide +kernel) rfl rfl (g_extract rfl (.mk rfl rfl) rfl) ?_
      refine WY.take 14 rfl (by decide +kernel) (by decide +kernel) (by decide +kernel) rfl rfl (g_extract rfl (.mk rfl rfl) rfl) ?_
      refine WY.one 15 (by decide +kernel) rfl rfl ?_
      refine WL1.give rfl (g_indexAddr (sz := 1) rfl (.mk rfl rfl) (.mk rfl rfl) rfl rfl rfl (by omega) (fun w hw => vec_some hw (.tail _ (.head _)) (by omega))) ?_
      refine WL.nil ?_
      refine WY.one 16 (by decide +kernel) rfl rfl ?_
      refine WL1.storeV1 rfl rfl (.mk rfl rfl) (.mk rfl rfl) rfl rfl (by first | omega | (simp; done) | (simp; omega)) (.tail (.head)) ?_
      refine WL.nil ?_
      refine WY.done (by decide +kernel) ?_
      (refine hK _ _ ?_; clear hK)
      refine WC.region rfl ?_
      refine WL.want rfl (WL1.give rfl (g_add rfl (.mk rfl rfl) (.mk rfl rfl) (IntWalk.i64_in _ (by omega))) ?_)
      refine WL.want rfl (WL1.give rfl (g_move rfl (.mk (v := .int _ _) rfl rfl)) ?_)
      refine WL.nil ?_
      rotate_left
      refine WL1.give rfl (g_load rfl (.mk rfl rfl) rfl (rd_sl hs2 (get1 (by omega)))) ?_
      refine WL.nil ?_
      refine WY.one 4 (by decide +kernel) rfl rfl ?_
      refine WL1.give rfl (g_indexAddr (sz := 1) rfl (.mk rfl rfl) (.mk rfl rfl) rfl rfl rfl (by omega) (fun w hw => vec_some hw (.head _) (by omega))) ?_
      refine WL.nil ?_
      refine WY.one 5 (by decide +kernel) rfl rfl ?_
      refine WL1.give rfl (g_load rfl (.mk rfl rfl) rfl (rd_vec (.head _) (get1 (by omega)))) ?_
      refine WL.nil ?_
      refine WY.one 11 (by decide +kernel) rfl rfl ?_
      (refine WL1.callN rfl rfl rfl (.cons (.mk (v := .slice _ _ _) rfl rfl) (.cons (.mk (v := .slice _ _ _) rfl rfl) (.cons (.mk (v := .int _ _) rfl rfl) .nil))) (fun w hw => fused_n _ _ (nth rs i).l (nth rb k).l (nth (nth ra i).l k) w (Sl.of_rowA hw (by repeat (first | exact .head _ | apply List.Mem.tail)) (by omega)) ((hb.row hlt2).below hw.1) (by omega) (by omega)) ?_; rintro _ _ ⟨Af, cf, rfl, rfl⟩)
      refine WL.nil ?_
      refine WY.take 12 rfl (by decide +kernel) (by decide +kernel) (by decide +kernel) rfl rfl (g_move rfl (.mk (v := .tuple _) rfl rfl)) ?_
      refine WY.take 13 rfl (by decide +kernel) (by decide +kernel) (by decide +kernel) rfl rfl (g_extract rfl (.mk rfl rfl) rfl) ?_
      refine WY.take 14 rfl (by decide +kernel) (by decide +kernel) (by decide +kernel) rfl rfl (g_extract rfl (.mk rfl rfl) rfl) ?_
      refine WY.one 15 (by decide +kernel) rfl rfl ?_
      refine WL1.give rfl (g_indexAddr (sz := 1) rfl (.mk rfl rfl) (.mk rfl rfl) rfl rfl rfl (by omega) (fun w hw => vec_some hw (.tail _ (.head _)) (by omega))) ?_
      refine WL.nil ?_
      refine WY.one 16 (by decide +kernel) rfl rfl ?_
      refine WL1.storeV1 rfl rfl (.mk rfl rfl) (.mk rfl rfl) rfl rfl (by first | omega | (simp; done) | (simp; omega)) (.tail (.head)) ?_
      refine WL.nil ?_
      refine WY.done (by decide +kernel) ?_
      (refine hK _ _ ?_; clear hK)
      refine WC.region rfl ?_
      refine WL.want rfl (WL1.give rfl (g_add rfl (.mk rfl rfl) (.mk rfl rfl) (IntWalk.i64_in _ (by omega))) ?_)
      refine WL.want rfl (WL1.give rfl (g_move rfl (.mk (v := .int _ _) rfl rfl)) ?_)
      refine WL.nil ?_
      rotate_left
      all_goals
        refine ⟨k + 1, rs.set i ⟨Af, cf, gfused (nth rs i).l (nth rb k).l (nth (nth ra i).l k)⟩, (by repeat (first | with_reducible exact Out.refl _ _ | refine Out.set rfl ?_ | refine Out.put rfl ?_ | refine Out.sets rfl ?_ | refine Out.hav rfl ?_ | exact Out.refl _ _)), ⟨rfl, trivial⟩, ?_, ⟨by omega, by rw [List.length_set, hrl], by rw [els_set, hre, prg_set hlt, hgf]⟩, by omega⟩
        rw [rowsv_set, Nat.mul_one, v_of hgl, own_of hgl]
        exact Imp.put2 (by repeat (first | exact .head | apply Take.tail)) (by repeat (first | exact .head | apply Swap.tail)) (by omega)
    · obtain rfl : k = rb.length := by omega
      (refine WC.seq ?_; intro K hK)
      refine WC.region rfl ?_
      refine WL.want rfl (WL1.give rfl (g_lt rfl (.mk rfl rfl) (.mk rfl rfl) (decide_eq_false (by omega))) ?_)
      refine WL.nil ?_
      (refine hK _ _ ?_; clear hK)
      (refine WC.seq ?_; intro K hK)
      refine WC.cond_false (.mk rfl rfl) ?_
      refine WC.exit ?_
      (clear hK; refine hK _ _ ?_; clear hK)
      refine WC.region rfl ?_
      refine WL.want rfl (WL1.give rfl (g_add rfl (.mk rfl rfl) (.mk rfl rfl) (IntWalk.i64_in _ (by omega))) ?_)
      refine WL.want rfl (WL1.give rfl (g_move rfl (.mk (v := .int _ _) rfl rfl)) ?_)
      refine WL.nil ?_
      exact ⟨i + 1, rs, (by repeat (first | with_reducible exact Out.refl _ _ | refine Out.set rfl ?_ | refine Out.put rfl ?_ | refine Out.sets rfl ?_ | refine Out.hav rfl ?_ | exact Out.refl _ _)), ⟨rfl, trivial⟩, .refl _, ⟨by omega, hrl, by rw [hre, ← prg_next, hF]⟩, by omega⟩
  · obtain rfl : i = ra.length := by omega
    (refine WC.seq ?_; intro K hK)
    refine WC.region rfl ?_
    refine WL.want rfl (WL1.give rfl (g_lt rfl (.mk rfl rfl) (.mk rfl rfl) (decide_eq_false (by omega))) ?_)
    refine WL.nil ?_
    (refine hK _ _ ?_; clear hK)
    (refine WC.seq ?_; intro K hK)
    refine WC.cond_false (.mk rfl rfl) ?_
    refine WC.exit ?_
    (clear hK; refine hK _ _ ?_; clear hK)
    (refine WC.seq ?_; intro K hK)
    refine WC.region rfl ?_
    refine WL.want rfl (WL1.give rfl (g_move rfl (.mk (v := .slice _ _ _) rfl rfl)) ?_)
    refine WL.want rfl (WL1.give rfl (g_assign rfl (.mk (v := .slice _ _ _) rfl rfl)) ?_)
    refine WL.want rfl (WL1.give rfl (g_assign rfl (.mk (v := .int _ _) rfl rfl)) ?_)
    refine WL.nil ?_
    (refine hK _ _ ?_; clear hK)
    refine WC.ret ?_
    exact fun w' hw' => ⟨_, _, rfl, hw', Ao, co, rs, by show Value.tuple #[.slice Ao r0.length co, iv 0] = _; rw [hrl, hrl0], by rw [matM, hrl, hrl0], by rw [hre, prg_all, hF, mulM, els_len, els_len, els_at (by omega)], hrl⟩
set_option maxRecDepth 20000 in
set_option maxHeartbeats 1000000 in
theorem mul_bad (va vb : Value) (ra rb : List Row) (w : World) (ha : MatAt w va ra) (hb : MatAt w vb rb) (h : ¬ (Good (els ra) ∧ Good (els rb) ∧ (nth ra 0).l.length = rb.length)) :
    Calls Try.prog 29 #[va, vb] w fun e w' => e = .returned (.tuple #[.slice none 0 0, iv 1]) ∧ Below w.heap.size w w' := by
  obtain ⟨A, c, rfl, hc, hm, hs⟩ := ha.1.open_
  obtain ⟨A2, c2, rfl, hc2, hm2, hs2⟩ := hb.1.open_
  have hval := fun w' hb => valid_e _ ra w' (ha.below (w' := w') hb)
  have hval2 := fun w' hx => valid_e _ rb w' (hb.below (w' := w') hx)
  by_cases hg : Good (els ra)
  · rw [goodB_iff.2 hg] at hval
    obtain ⟨g1, g2, g3, g4⟩ := hg.parts
    by_cases hgb : Good (els rb)
    · rw [goodB_iff.2 hgb] at hval2
      have hne : (nth ra 0).l.length ≠ rb.length := fun e => h ⟨hg, hgb, e⟩
      refine calls_wc (args := [.slice A ra.length c, .slice A2 rb.length c2]) [4, 5] [] Try.func29 rfl Try.ntmps29 rfl rfl rfl rfl (H.refl w) ?_
      (refine WC.seq ?_; intro K hK)
      refine WC.region rfl ?_
      refine WL.want rfl (WL1.give rfl (g_assign rfl (.mk (v := .slice _ _ _) rfl rfl)) ?_)
      refine WL.want rfl (WL1.give rfl (g_assign rfl (.mk (v := .int _ _) rfl rfl)) ?_)
      refine WL.nil ?_
      (refine hK _ _ ?_; clear hK)
      (refine WC.seq ?_; intro K hK)
      (refine WC.seq ?_; intro K hK)
      refine WC.region rfl ?_
      refine WL.want rfl (WL1.give rfl (g_move rfl (.mk (v := .slice _ _ _) rfl rfl)) ?_)
      refine WL.want rfl (WL1.callP rfl rfl rfl (.cons (.mk (v := .slice _ _ _) rfl rfl) .nil) (fun w hw => hval w hw.1) ?_)
      refine WL.want rfl (WL1.give rfl (g_notT rfl (.mk rfl rfl)) ?_)
      refine WL.want rfl (WL1.give rfl (g_move rfl (.mk (v := .bool _) rfl rfl)) ?_)
      refine WL.wantG rfl rfl rfl rfl (WL1.give rfl (g_move rfl (.mk (v := .slice _ _ _) rfl rfl)) ?_)
      refine WL.wantG rfl rfl rfl rfl (WL1.callP rfl rfl rfl (.cons (.mk (v := .slice _ _ _) rfl rfl) .nil) (fun w hw => hval2 w hw.1) ?_)
      refine WL.wantG rfl rfl rfl rfl (WL1.give rfl (g_notT rfl (.mk rfl rfl)) ?_)
      refine WL.want rfl (WL1.give rfl (g_pickF rfl (.mk rfl rfl) (.mk (v := .bool _) rfl rfl)) ?_)
      refine WL.want rfl (WL1.give rfl (g_move rfl (.mk (v := .bool _) rfl rfl)) ?_)
      refine WL.wantG rfl rfl rfl rfl (WL1.give rfl (g_move rfl (.mk (v := .slice _ _ _) rfl rfl)) ?_)
      refine WL.wantG rfl rfl rfl rfl (WL1.give rfl (g_indexAddr (sz := 1) rfl (.mk rfl rfl) (.mk rfl rfl) rfl rfl (show _ = ((0 : Nat) : Int) from rfl) (by omega) (fun _ _ => sl_some hs (by omega))) ?_)
      refine WL.wantG rfl rfl rfl rfl (WL1.give rfl (g_load rfl (.mk rfl rfl) rfl (rd_sl hs (get1 (by omega)))) ?_)
      refine WL.wantG rfl rfl rfl rfl (WL1.give rfl (g_len rfl (.mk rfl rfl) rfl) ?_)
      refine WL.wantG rfl rfl rfl rfl (WL1.give rfl (g_move rfl (.mk (v := .slice _ _ _) rfl rfl)) ?_)
      refine WL.wantG rfl rfl rfl rfl (WL1.give rfl (g_len rfl (.mk rfl rfl) rfl) ?_)
      refine WL.wantG rfl rfl rfl rfl (WL1.give rfl (g_ne rfl (.mk rfl rfl) (.mk rfl rfl) (decide_eq_true (by omega))) ?_)
      refine WL.want rfl (WL1.give rfl (g_pickF rfl (.mk rfl rfl) (.mk (v := .bool _) rfl rfl)) ?_)
      refine WL.nil ?_
      (refine hK _ _ ?_; clear hK)
      refine WC.cond_true (.mk rfl rfl) ?_
      (refine WC.seq ?_; intro K hK)
      refine WC.region rfl ?_
      refine WL.want rfl (WL1.give rfl (g_assign rfl (.mk (v := .slice _ _ _) rfl rfl)) ?_)
      refine WL.want rfl (WL1.give rfl (g_assign rfl (.mk (v := .int _ _) rfl rfl)) ?_)
      refine WL.nil ?_
      (refine hK _ _ ?_; clear hK)
      refine WC.ret ?_
      exact fun w' hw' => ⟨rfl, hw'.1⟩
    · rw [goodB_no hgb] at hval2
      refine calls_wc (args := [.slice A ra.length c, .slice A2 rb.length c2]) [4, 5] [] Try.func29 rfl Try.ntmps29 rfl rfl rfl rfl (H.refl w) ?_
      (refine WC.seq ?_; intro K hK)
      refine WC.region rfl ?_
      refine WL.want rfl (WL1.give rfl (g_assign rfl (.mk (v := .slice _ _ _) rfl rfl)) ?_)
      refine WL.want rfl (WL1.give rfl (g_assign rfl (.mk (v := .int _ _) rfl rfl)) ?_)
      refine WL.nil ?_
      (refine hK _ _ ?_; clear hK)
      (refine WC.seq ?_; intro K hK)
      (refine WC.seq ?_; intro K hK)
      refine WC.region rfl ?_
      refine WL.want rfl (WL1.give rfl (g_move rfl (.mk (v := .slice _ _ _) rfl rfl)) ?_)
      refine WL.want rfl (WL1.callP rfl rfl rfl (.cons (.mk (v := .slice _ _ _) rfl rfl) .nil) (fun w hw => hval w hw.1) ?_)
      refine WL.want rfl (WL1.give rfl (g_notT rfl (.mk rfl rfl)) ?_)
      refine WL.want rfl (WL1.give rfl (g_move rfl (.mk (v := .bool _) rfl rfl)) ?_)
      refine WL.wantG rfl rfl rfl rfl (WL1.give rfl (g_move rfl (.mk (v := .slice _ _ _) rfl rfl)) ?_)
      refine WL.wantG rfl rfl rfl rfl (WL1.callP rfl rfl rfl (.cons (.mk (v := .slice _ _ _) rfl rfl) .nil) (fun w hw => hval2 w hw.1) ?_)
      refine WL.wantG rfl rfl rfl rfl (WL1.give rfl (g_notF rfl (.mk rfl rfl)) ?_)
      refine WL.want rfl (WL1.give rfl (g_pickF rfl (.mk rfl rfl) (.mk (v := .bool _) rfl rfl)) ?_)
      refine WL.want rfl (WL1.give rfl (g_move rfl (.mk (v := .bool _) rfl rfl)) ?_)
      refine WL.skipG rfl rfl rfl rfl rfl rfl ?_
      refine WL.skipG rfl rfl rfl rfl rfl rfl ?_
      refine WL.skipG rfl rfl rfl rfl rfl rfl ?_
      refine WL.skipG rfl rfl rfl rfl rfl rfl ?_
      refine WL.skipG rfl rfl rfl rfl rfl rfl ?_
      refine WL.skipG rfl rfl rfl rfl rfl rfl ?_
      refine WL.skipG rfl rfl rfl rfl rfl rfl ?_
      refine WL.want rfl (WL1.give rfl (g_pickT rfl (.mk rfl rfl) (.mk (v := .bool _) rfl rfl)) ?_)
      refine WL.nil ?_
      (refine hK _ _ ?_; clear hK)
      refine WC.cond_true (.mk rfl rfl) ?_
      (refine WC.seq ?_; intro K hK)
      refine WC.region rfl ?_
      refine WL.want rfl (WL1.give rfl (g_assign rfl (.mk (v := .slice _ _ _) rfl rfl)) ?_)
      refine WL.want rfl (WL1.give rfl (g_assign rfl (.mk (v := .int _ _) rfl rfl)) ?_)
      refine WL.nil ?_
      (refine hK _ _ ?_; clear hK)
      refine WC.ret ?_
      exact fun w' hw' => ⟨rfl, hw'.1⟩
  · rw [goodB_no hg] at hval
    refine calls_wc (args := [.slice A ra.length c, .slice A2 rb.length c2]) [4, 5] [] Try.func29 rfl Try.ntmps29 rfl rfl rfl rfl (H.refl w) ?_
    (refine WC.seq ?_; intro K hK)
    refine WC.region rfl ?_
    refine WL.want rfl (WL1.give rfl (g_assign rfl (.mk (v := .slice _ _ _) rfl rfl)) ?_)
    refine WL.want rfl (WL1.give rfl (g_assign rfl (.mk (v := .int _ _) rfl rfl)) ?_)
    refine WL.nil ?_
    (refine hK _ _ ?_; clear hK)
    (refine WC.seq ?_; intro K hK)
    (refine WC.seq ?_; intro K hK)
    refine WC.region rfl ?_
    refine WL.want rfl (WL1.give rfl (g_move rfl (.mk (v := .slice _ _ _) rfl rfl)) ?_)
    refine WL.want rfl (WL1.callP rfl rfl rfl (.cons (.mk (v := .slice _ _ _) rfl rfl) .nil) (fun w hw => hval w hw.1) ?_)
    refine WL.want rfl (WL1.give rfl (g_notF rfl (.mk rfl rfl)) ?_)
    refine WL.want rfl (WL1.give rfl (g_move rfl (.mk (v := .bool _) rfl rfl)) ?_)
    refine WL.skipG rfl rfl rfl rfl rfl rfl ?_
    refine WL.skipG rfl rfl rfl rfl rfl rfl ?_
    refine WL.skipG rfl rfl rfl rfl rfl rfl ?_
    refine WL.want rfl (WL1.give rfl (g_pickT rfl (.mk rfl rfl) (.mk (v := .bool _) rfl rfl)) ?_)
    refine WL.want rfl (WL1.give rfl (g_move rfl (.mk (v := .bool _) rfl rfl)) ?_)
    refine WL.skipG rfl rfl rfl rfl rfl rfl ?_
    refine WL.skipG rfl rfl rfl rfl rfl rfl ?_
    refine WL.skipG rfl rfl rfl rfl rfl rfl ?_
    refine WL.skipG rfl rfl rfl rfl rfl rfl ?_
    refine WL.skipG rfl rfl rfl rfl rfl rfl ?_
    refine WL.skipG rfl rfl rfl rfl rfl rfl ?_
    refine WL.skipG rfl rfl rfl rfl rfl rfl ?_
    refine WL.want rfl (WL1.give rfl (g_pickT rfl (.mk rfl rfl) (.mk (v := .bool _) rfl rfl)) ?_)
    refine WL.nil ?_
    (refine hK _ _ ?_; clear hK)
    refine WC.cond_true (.mk rfl rfl) ?_
    (refine WC.seq ?_; intro K hK)
    refine WC.region rfl ?_
    refine WL.want rfl (WL1.give rfl (g_assign rfl (.mk (v := .slice _ _ _) rfl rfl)) ?_)
    refine WL.want rfl (WL1.give rfl (g_assign rfl (.mk (v := .int _ _) rfl rfl)) ?_)
    refine WL.nil ?_
    (refine hK _ _ ?_; clear hK)
    refine WC.ret ?_
    exact fun w' hw' => ⟨rfl, hw'.1⟩
/-- The transposed matrix. -/
def trM (m : List (List G)) : List (List G) := (List.range (nth m 0).length).map fun k => (List.range m.length).map fun i => el m i k
/-- The first i columns are done, of column i the first k. -/
def trP (m : List (List G)) (n r i k : Nat) : List (List G) := (List.range n).map fun q => (List.range r).map fun p => if p < i ∨ (p = i ∧ q < k) then el m p q else 0
theorem trP_len (m : List (List G)) (n r i k : Nat) : (trP m n r i k).length = n := by simp [trP]
theorem trP_zero (m : List (List G)) (n r : Nat) : List.replicate n (zrow r) = trP m n r 0 0 := by
  refine List.ext_getElem (by simp [trP]) fun q h1 h2 => List.ext_getElem (by simp [trP, zrow]) fun p h3 h4 => ?_
  simp [trP, zrow]
theorem trP_next (m : List (List G)) (n r i : Nat) : trP m n r i n = trP m n r (i + 1) 0 := List.map_congr_left fun q hq => List.map_congr_left fun p hp => by
  have hq' : q < n := by simpa using hq
  by_cases e : p < i + 1
  · rw [if_pos (by omega), if_pos (.inl e)]
  · rw [if_neg (by omega), if_neg (by omega)]
theorem trP_set {m : List (List G)} {n r i k : Nat} (hi : i < r) (hk : k < n) : (trP m n r i k).set k ((nth (trP m n r i k) k).set i (el m i k)) = trP m n r i (k + 1) := by
  have hrow : ∀ k' q, q < n → nth (trP m n r i k') q = (List.range r).map fun p => if p < i ∨ (p = i ∧ q < k') then el m p q else 0 := fun k' q hq => nth_range _ hq
  refine list_ext_nth (by rw [List.length_set, trP_len, trP_len]) fun q hq => ?_
  rw [List.length_set, trP_len] at hq
  rw [nth_put (by rw [trP_len]; exact hk), hrow _ _ hk, hrow _ _ hq]
  by_cases e : q = k
  · subst e
    rw [if_pos rfl, hrow _ _ hq]
    refine list_ext_nth (by simp) fun p hp => ?_
    have hp' : p < r := by simpa using hp
    rw [nth_put (by simpa using hi), nth_range _ hp', nth_range _ hp']
    by_cases e2 : p = i
    · subst e2; rw [if_pos rfl, if_pos (by omega)]
    · rw [if_neg e2]
      by_cases e3 : p < i
      · rw [if_pos (.inl e3), if_pos (.inl e3)]
      · rw [if_neg (by omega), if_neg (by omega)]
  · rw [if_neg e, hrow _ _ hq]
    refine List.map_congr_left fun p _ => ?_
    by_cases e3 : p < i ∨ (p = i ∧ q < k)
    · rw [if_pos e3, if_pos (by omega)]
    · rw [if_neg e3, if_neg (by omega)]
set_option maxRecDepth 20000 in
set_option maxHeartbeats 2000000 in
theorem transpose_n (va : Value) (ra : List Row) (w : World) (ha : MatAt w va ra) (hg : Good (els ra)) :
    Calls Try.prog 25 #[va] w fun e w' => ∃ v' M, e = .returned v' ∧ H w M w' ∧ ∃ A cc rs, v' = .tuple #[.slice A rs.length cc, iv 0] ∧ M = matM A cc rs ∧ els rs = trM (els ra) ∧ rs.length = (nth ra 0).l.length := by
  obtain ⟨A, c, rfl, hc, hm, hs⟩ := ha.1.open_
  have hval := fun w' hb => valid_e _ ra w' (ha.below (w' := w') hb)
  rw [goodB_iff.2 hg] at hval
  obtain ⟨g1, g2, g3, g4⟩ := hg.parts
  obtain ⟨n, hn⟩ : ∃ n, n = (nth ra 0).l.length := ⟨_, rfl⟩
  refine calls_wc (args := [.slice A ra.length c]) [2, 3] [] Try.func25 rfl Try.ntmps25 rfl rfl rfl rfl (H.refl w) ?_
  (refine WC.seq ?_; intro K hK)
  refine WC.region rfl ?_
  refine WL.want rfl (WL1.give rfl (g_assign rfl (.mk (v := .slice _ _ _) rfl rfl)) ?_)
  refine WL.want rfl (WL1.give rfl (g_assign rfl (.mk (v := .int _ _) rfl rfl)) ?_)
  refine WL.nil ?_
  (refine hK _ _ ?_; clear hK)
  (refine WC.seq ?_; intro K hK)
  (refine WC.seq ?_; intro K hK)
  refine WC.region rfl ?_
  refine WL.want rfl (WL1.give rfl (g_move rfl (.mk (v := .slice _ _ _) rfl rfl)) ?_)
  refine WL.want rfl (WL1.callP rfl rfl rfl (.cons (.mk (v := .slice _ _ _) rfl rfl) .nil) (fun w hw => hval w hw.1) ?_)
  refine WL.want rfl (WL1.give rfl (g_notT rfl (.mk rfl rfl)) ?_)
  refine WL.nil ?_
  (refine hK _ _ ?_; clear hK)
  refine WC.cond_false (.mk rfl rfl) ?_
  refine WC.skip ?_
  (refine hK _ _ ?_; clear hK)
  (refine WC.seq ?_; intro K hK)
  refine WC.region rfl ?_
  refine WL.want rfl (WL1.give rfl (g_move rfl (.mk (v := .slice _ _ _) rfl rfl)) ?_)
  refine WL.want rfl (WL1.give rfl (g_indexAddr (sz := 1) rfl (.mk rfl rfl) (.mk rfl rfl) rfl rfl (show _ = ((0 : Nat) : Int) from rfl) (by omega) (fun _ _ => sl_some hs (by omega))) ?_)
  refine WL.want rfl (WL1.give rfl (g_load rfl (.mk rfl rfl) rfl (rd_sl hs (get1 (by omega)))) ?_)
  refine WL.want rfl (WL1.give rfl (g_len rfl (.mk rfl rfl) rfl) ?_)
  refine WL.want rfl (WL1.give rfl (g_move rfl (.mk (v := .slice _ _ _) rfl rfl)) ?_)
  refine WL.want rfl (WL1.give rfl (g_len rfl (.mk rfl rfl) rfl) ?_)
  (refine WL.want rfl (WL1.callN rfl rfl rfl (.cons (.mk (v := .int _ _) rfl rfl) (.cons (.mk (v := .int _ _) rfl rfl) .nil)) (fun w hw => blank_n (nth ra 0).l.length ra.length w (by omega) (by omega)) ?_); rintro _ _ ⟨Ao, co, r0, rfl, rfl, hre0, hrl0⟩)
  refine WL.want rfl (WL1.give rfl (g_assign rfl (.mk (v := .slice _ _ _) rfl rfl)) ?_)
  refine WL.nil ?_
  (refine hK _ _ ?_; clear hK)
  (refine WC.seq ?_; intro K hK)
  (refine WC.seq ?_; intro K hK)
  refine WC.region rfl ?_
  refine WL.want rfl (WL1.give rfl (g_move rfl (.mk (v := .slice _ _ _) rfl rfl)) ?_)
  refine WL.want rfl (WL1.give rfl (g_len rfl (.mk rfl rfl) rfl) ?_)
  refine WL.want rfl (WL1.give rfl (g_move rfl (.mk (v := .int _ _) rfl rfl)) ?_)
  refine WL.nil ?_
  (refine hK _ _ ?_; clear hK)
  refine WC.block ?_
  refine WC.loopI2 (4398044414432) (fun (i : Nat) (rs : List Row) => [(21, iv i)]) (fun i rs => [vec Ao r0.length co 28 1 (rs.map Row.v), rowsA rs]) (fun i rs => i ≤ ra.length ∧ rs.length = n ∧ els rs = trP (els ra) n ra.length i 0) (fun i _ => ra.length - i) 0 r0 ⟨rfl, trivial⟩ (by rw [List.append_nil]; exact .refl _) ⟨by omega, by omega, by rw [hre0, ← hn, trP_zero]⟩ ?_
  rintro i rs U ⟨hi, hrl, hre⟩
  by_cases hlt : i < ra.length
  · have hral := hg.row hlt
    (refine WC.seq ?_; intro K hK)
    refine WC.region rfl ?_
    refine WL.want rfl (WL1.give rfl (g_lt rfl (.mk rfl rfl) (.mk rfl rfl) (decide_eq_true (by omega))) ?_)
    refine WL.nil ?_
    (refine hK _ _ ?_; clear hK)
    (refine WC.seq ?_; intro K hK)
    refine WC.cond_true (.mk rfl rfl) ?_
    refine WC.skip ?_
    (refine hK _ _ ?_; clear hK)
    (refine WC.seq ?_; intro K hK)
    refine WC.block ?_
    (refine WC.seq ?_; intro K hK)
    refine WC.region rfl ?_
    refine WL.want rfl (WL1.give rfl (g_move rfl (.mk (v := .int _ _) rfl rfl)) ?_)
    refine WL.want rfl (WL1.give rfl (g_indexAddr (sz := 1) rfl (.mk rfl rfl) (.mk rfl rfl) rfl rfl rfl (by omega) (fun _ _ => sl_some hs (by omega))) ?_)
    refine WL.want rfl (WL1.give rfl (g_load rfl (.mk rfl rfl) rfl (rd_sl hs (get1 (by omega)))) ?_)
    refine WL.want rfl (WL1.give rfl (g_assign rfl (.mk (v := .int _ _) rfl rfl)) ?_)
    refine WL.want rfl (WL1.give rfl (g_assign rfl (.mk (v := .slice _ _ _) rfl rfl)) ?_)
    refine WL.nil ?_
    (refine hK _ _ ?_; clear hK)
    (refine WC.seq ?_; intro K hK)
    refine WC.region rfl ?_
    refine WL.want rfl (WL1.give rfl (g_move rfl (.mk (v := .slice _ _ _) rfl rfl)) ?_)
    refine WL.want rfl (WL1.give rfl (g_len rfl (.mk rfl rfl) rfl) ?_)
    refine WL.want rfl (WL1.give rfl (g_move rfl (.mk (v := .int _ _) rfl rfl)) ?_)
    refine WL.nil ?_
    (refine hK _ _ ?_; clear hK)
    refine WC.block ?_
    refine WC.loopI2 (2198754820480) (fun (k : Nat) (rs : List Row) => [(28, iv k)]) (fun k rs => [vec Ao r0.length co 28 1 (rs.map Row.v), rowsA rs]) (fun k rs => k ≤ n ∧ rs.length = n ∧ els rs = trP (els ra) n ra.length i k) (fun k _ => n - k) 0 rs ⟨rfl, trivial⟩ (.refl _) ⟨by omega, hrl, hre⟩ ?_
    rintro k rs U ⟨hk, hrl, hre⟩
    by_cases hlt2 : k < n
    · have hri : (nth rs k).l = nth (trP (els ra) n ra.length i k) k := els_row hre (by omega)
      have hrll : (nth rs k).l.length = ra.length := by rw [hri, trP, nth_range _ hlt2]; simp
      (refine WC.seq ?_; intro K hK)
      refine WC.region rfl ?_
      refine WL.want rfl (WL1.give rfl (g_lt rfl (.mk rfl rfl) (.mk rfl rfl) (decide_eq_true (by omega))) ?_)
      refine WL.nil ?_
      (refine hK _ _ ?_; clear hK)
      (refine WC.seq ?_; intro K hK)
      refine WC.cond_true (.mk rfl rfl) ?_
      refine WC.skip ?_
      (refine hK _ _ ?_; clear hK)
      (refine WC.seq ?_; intro K hK)
      refine WC.block ?_
      (refine WC.seq ?_; intro K hK)
      refine WC.region rfl ?_
      refine WL.want rfl (WL1.give rfl (g_move rfl (.mk (v := .int _ _) rfl rfl)) ?_)
      refine WL.want rfl (WL1.give rfl (g_indexAddr (sz := 1) rfl (.mk rfl rfl) (.mk rfl rfl) rfl rfl rfl (by omega) (fun _ _ => sl_some (ha.row (by omega)) (by omega))) ?_)
      refine WL.want rfl (WL1.give rfl (g_load rfl (.mk rfl rfl) rfl (rd_sl (ha.row (by omega)) (get1 (by omega)))) ?_)
      refine WL.want rfl (WL1.give rfl (g_assign rfl (.mk (v := .int _ _) rfl rfl)) ?_)
      refine WL.want rfl (WL1.give rfl (g_assign rfl (.mk (v := .int _ _) rfl rfl)) ?_)
      refine WL.nil ?_
      (refine hK _ _ ?_; clear hK)
      refine WC.region rfl ?_
      refine WL.want rfl (WL1.give rfl (g_move rfl (.mk (v := .slice _ _ _) rfl rfl)) ?_)
      refine WL.want rfl (WL1.give rfl (g_move rfl (.mk (v := .int _ _) rfl rfl)) ?_)
      refine WL.want rfl (WL1.give rfl (g_indexAddr (sz := 1) rfl (.mk rfl rfl) (.mk rfl rfl) rfl rfl rfl (by omega) (fun w hw => vec_some hw (.head _) (by omega))) ?_)
      refine WL.want rfl (WL1.give rfl (g_load rfl (.mk rfl rfl) rfl (rd_vec (.head _) (get1 (by omega)))) ?_)
      refine WL.want rfl (WL1.give rfl (g_move rfl (.mk (v := .int _ _) rfl rfl)) ?_)
      refine WL.want rfl (WL1.give rfl (g_move rfl (.mk (v := .int _ _) rfl rfl)) ?_)
      refine WL.want rfl (WL1.give rfl (g_indexAddr (sz := 1) rfl (.mk rfl rfl) (.mk rfl rfl) rfl rfl rfl (by omega) (rowA_some (.tail _ (.head _)) (by omega) (by omega))) ?_)
      refine WL.want rfl (WL1.storeRow rfl rfl (.mk rfl rfl) rfl rfl (.mk rfl rfl) rfl rfl (by omega) (by omega) (.tail (.head)) ?_)
      refine WL.nil ?_
      (refine hK _ _ ?_; clear hK)
      refine WC.region rfl ?_
      refine WL.want rfl (WL1.give rfl (g_add rfl (.mk rfl rfl) (.mk rfl rfl) (IntWalk.i64_in _ (by omega))) ?_)
      refine WL.want rfl (WL1.give rfl (g_move rfl (.mk (v := .int _ _) rfl rfl)) ?_)
      refine WL.nil ?_
      refine ⟨k + 1, rs.set k ((nth rs k).put i (nth (nth ra i).l k)), (by repeat (first | with_reducible exact Out.refl _ _ | refine Out.set rfl ?_ | refine Out.put rfl ?_ | refine Out.sets rfl ?_ | refine Out.hav rfl ?_ | exact Out.refl _ _)), ⟨rfl, trivial⟩, by rw [rowsv_put (by omega)]; exact .refl _, ⟨by omega, by rw [List.length_set, hrl], ?_⟩, by omega⟩
      rw [put_els (by omega), hre, el_row hlt]
      exact trP_set hlt hlt2
    · obtain rfl : k = n := by omega
      (refine WC.seq ?_; intro K hK)
      refine WC.region rfl ?_
      refine WL.want rfl (WL1.give rfl (g_lt rfl (.mk rfl rfl) (.mk rfl rfl) (decide_eq_false (by omega))) ?_)
      refine WL.nil ?_
      (refine hK _ _ ?_; clear hK)
      (refine WC.seq ?_; intro K hK)
      refine WC.cond_false (.mk rfl rfl) ?_
      refine WC.exit ?_
      (clear hK; refine hK _ _ ?_; clear hK)
      refine WC.region rfl ?_
      refine WL.want rfl (WL1.give rfl (g_add rfl (.mk rfl rfl) (.mk rfl rfl) (IntWalk.i64_in _ (by omega))) ?_)
      refine WL.want rfl (WL1.give rfl (g_move rfl (.mk (v := .int _ _) rfl rfl)) ?_)
      refine WL.nil ?_
      exact ⟨i + 1, rs, (by repeat (first | with_reducible exact Out.refl _ _ | refine Out.set rfl ?_ | refine Out.put rfl ?_ | refine Out.sets rfl ?_ | refine Out.hav rfl ?_ | exact Out.refl _ _)), ⟨rfl, trivial⟩, .refl _, ⟨by omega, hrl, by rw [hre, trP_next]⟩, by omega⟩
  · obtain rfl : i = ra.length := by omega
    (refine WC.seq ?_; intro K hK)
    refine WC.region rfl ?_
    refine WL.want rfl (WL1.give rfl (g_lt rfl (.mk rfl rfl) (.mk rfl rfl) (decide_eq_false (by omega))) ?_)
    refine WL.nil ?_
    (refine hK _ _ ?_; clear hK)
    (refine WC.seq ?_; intro K hK)
    refine WC.cond_false (.mk rfl rfl) ?_
    refine WC.exit ?_
    (clear hK; refine hK _ _ ?_; clear hK)
    (refine WC.seq ?_; intro K hK)
    refine WC.region rfl ?_
    refine WL.want rfl (WL1.give rfl (g_move rfl (.mk (v := .slice _ _ _) rfl rfl)) ?_)
    refine WL.want rfl (WL1.give rfl (g_assign rfl (.mk (v := .slice _ _ _) rfl rfl)) ?_)
    refine WL.want rfl (WL1.give rfl (g_assign rfl (.mk (v := .int _ _) rfl rfl)) ?_)
    refine WL.nil ?_
    (refine hK _ _ ?_; clear hK)
    refine WC.ret ?_
    refine fun w' hw' => ⟨_, _, rfl, hw', Ao, co, rs, by show Value.tuple #[.slice Ao r0.length co, iv 0] = _; rw [hrl, hrl0, hn], by rw [matM, hrl, hrl0, hn], ?_, by omega⟩
    rw [hre, trP, trM, els_len, els_at (by omega), ← hn]
    exact List.map_congr_left fun q _ => List.map_congr_left fun p hp => if_pos (.inl (by simpa using hp))
set_option maxRecDepth 20000 in
set_option maxHeartbeats 1000000 in
theorem transpose_bad (va : Value) (ra : List Row) (w : World) (ha : MatAt w va ra) (hg : ¬ Good (els ra)) : Calls Try.prog 25 #[va] w fun e w' => e = .returned (.tuple #[.slice none 0 0, iv 1]) ∧ Below w.heap.size w w' := by
  obtain ⟨A, c, rfl, hc, hm, hs⟩ := ha.1.open_
  have hval := fun w' hb => valid_e _ ra w' (ha.below (w' := w') hb)
  rw [goodB_no hg] at hval
  refine calls_wc (args := [.slice A ra.length c]) [2, 3] [] Try.func25 rfl Try.ntmps25 rfl rfl rfl rfl (H.refl w) ?_
  (refine WC.seq ?_; intro K hK)
  refine WC.region rfl ?_
  refine WL.want rfl (WL1.give rfl (g_assign rfl (.mk (v := .slice _ _ _) rfl rfl)) ?_)
  refine WL.want rfl (WL1.give rfl (g_assign rfl (.mk (v := .int _ _) rfl rfl)) ?_)
  refine WL.nil ?_
  (refine hK _ _ ?_; clear hK)
  (refine WC.seq ?_; intro K hK)
  (refine WC.seq ?_; intro K hK)
  refine WC.region rfl ?_
  refine WL.want rfl (WL1.give rfl (g_move rfl (.mk (v := .slice _ _ _) rfl rfl)) ?_)
  refine WL.want rfl (WL1.callP rfl rfl rfl (.cons (.mk (v := .slice _ _ _) rfl rfl) .nil) (fun w hw => hval w hw.1) ?_)
  refine WL.want rfl (WL1.give rfl (g_notF rfl (.mk rfl rfl)) ?_)
  refine WL.nil ?_
  (refine hK _ _ ?_; clear hK)
  refine WC.cond_true (.mk rfl rfl) ?_
  (refine WC.seq ?_; intro K hK)
  refine WC.region rfl ?_
  refine WL.want rfl (WL1.give rfl (g_assign rfl (.mk (v := .slice _ _ _) rfl rfl)) ?_)
  refine WL.want rfl (WL1.give rfl (g_assign rfl (.mk (v := .int _ _) rfl rfl)) ?_)
  refine WL.nil ?_
  (refine hK _ _ ?_; clear hK)
  refine WC.ret ?_
  exact fun w' hw' => ⟨rfl, hw'.1⟩
end Go.Proofs.Ytlkemgefioiffaa
