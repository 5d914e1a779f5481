/- The reference's product and rows; copies; LeftInverse, walked. No condition. -/
import Derived.Test.YtlkemgefioiffaaMat9
namespace Go.Proofs.Ytlkemgefioiffaa
open Go.RowKit
attribute [local irreducible] Calls
set_option maxRecDepth 20000 in
set_option maxHeartbeats 4000000 in
theorem rmul_n (va vb : Value) (ra rb : List Row) (n : Nat) (w : World) (ha : MatAt w va ra) (hb : MatAt w vb rb) (hl : ∀ i, i < ra.length → (nth ra i).l.length = rb.length) (hlb : ∀ i, i < rb.length → (nth rb i).l.length = n) (h1 : ra.length ≤ 1000) (h2 : 1 ≤ rb.length) (h3 : rb.length ≤ 1000) (h4 : n ≤ 1000) :
    Calls Try.prog 17 #[va, vb] w fun e w' => ∃ v' M, e = .returned v' ∧ H w M w' ∧ ∃ A cc rs, v' = .slice A rs.length cc ∧ M = matM A cc rs ∧ els rs = mulM (els ra) (els rb) ∧ rs.length = ra.length := by
  obtain ⟨A, c, rfl, hc, hm, hs⟩ := ha.1.open_
  obtain ⟨A2, c2, rfl, hc2, hm2, hs2⟩ := hb.1.open_
  have hb0 := hlb 0 (by omega)
  obtain ⟨a, hA⟩ : ∃ a, a = els ra := ⟨_, rfl⟩
  obtain ⟨b, hB⟩ : ∃ b, b = els rb := ⟨_, rfl⟩
  refine calls_wc (args := [.slice A ra.length c, .slice A2 rb.length c2]) [4] [] Try.func17 rfl Try.ntmps17 rfl rfl rfl rfl (H.refl w) ?_
  (refine WC.seq ?_; intro K hK)
  refine WC.region rfl ?_
  refine WL.want rfl (WL1.give rfl (g_assign rfl (.mk (v := .slice _ _ _) rfl rfl)) ?_)
  refine WL.nil ?_
  (refine hK _ _ ?_; clear hK)
  (refine WC.seq ?_; intro K hK)
  refine WC.region rfl ?_
  refine WL.want rfl (WL1.give rfl (g_assign rfl (.mk (v := .slice _ _ _) rfl rfl)) ?_)
  refine WL.nil ?_
  (refine hK _ _ ?_; clear hK)
  (refine WC.seq ?_; intro K hK)
  (refine WC.seq ?_; intro K hK)
  refine WC.region rfl ?_
  refine WL.want rfl (WL1.give rfl (g_assign rfl (.mk (v := .int _ _) rfl rfl)) ?_)
  refine WL.nil ?_
  (refine hK _ _ ?_; clear hK)
  refine WC.block ?_
  refine WC.nilvec 28 1 ?_
  refine WC.loopI4 (72057594037927904) (fun (i : Nat) (O : Option Addr) (oc : Nat) (ro : List Row) => [(6, iv i), (5, .slice O i oc)]) (fun i O oc ro => [vec O i oc 28 1 (ro.map Row.v), rowsA ro]) (fun i _ _ ro => i ≤ ra.length ∧ ro.length = i ∧ els ro = fstL (fun i => mrow a b n i rb.length) i) (fun i _ _ _ => ra.length - i) 0 none 0 [] ⟨rfl, rfl, trivial⟩ (Imp.cons (Imp.rows_nil _)) ⟨by omega, rfl, rfl⟩ ?_
  rintro i O oc ro U ⟨hi, hrl, hre⟩
  by_cases hlt : i < ra.length
  · have hli := hl i hlt
    (refine WC.seq ?_; intro K hK)
    (refine WC.seq ?_; intro K hK)
    refine WC.region rfl ?_
    refine WL.want rfl (WL1.give rfl (g_move rfl (.mk (v := .int _ _) rfl rfl)) ?_)
    refine WL.want rfl (WL1.give rfl (g_move rfl (.mk (v := .slice _ _ _) rfl rfl)) ?_)
    refine WL.want rfl (WL1.give rfl (g_len rfl (.mk rfl rfl) rfl) ?_)
    refine WL.want rfl (WL1.give rfl (g_lt rfl (.mk rfl rfl) (.mk rfl rfl) (decide_eq_true (by omega))) ?_)
    refine WL.nil ?_
    (refine hK _ _ ?_; clear hK)
    refine WC.cond_true (.mk rfl rfl) ?_
    refine WC.skip ?_
    (refine hK _ _ ?_; clear hK)
    (refine WC.seq ?_; intro K hK)
    refine WC.block ?_
    (refine WC.seq ?_; intro K hK)
    refine WC.region rfl ?_
    refine WL.want rfl (WL1.give rfl (g_assign rfl (.mk (v := .slice _ _ _) rfl rfl)) ?_)
    refine WL.nil ?_
    (refine hK _ _ ?_; clear hK)
    (refine WC.seq ?_; intro K hK)
    (refine WC.seq ?_; intro K hK)
    refine WC.region rfl ?_
    refine WL.want rfl (WL1.give rfl (g_assign rfl (.mk (v := .int _ _) rfl rfl)) ?_)
    refine WL.nil ?_
    (refine hK _ _ ?_; clear hK)
    refine WC.block ?_
    refine WC.nilvec 5 1 ?_
    refine WC.loopI3 (4503599627241344) (fun (k : Nat) (D : Option Addr) (dc : Nat) => [(8, iv k), (7, .slice D k dc)]) (fun k D dc => [vec D k dc 5 1 (bvs (fstL (fun j => gsum rb.length fun q => el a i q * el b q j) k)), vec O i oc 28 1 (ro.map Row.v), rowsA ro]) (fun k _ _ => k ≤ n) (fun k _ _ => n - k) 0 none 0 ⟨rfl, rfl, trivial⟩ (.refl _) (by omega) ?_
    intro k D dc V hk
    by_cases hlt2 : k < n
    · (refine WC.seq ?_; intro K hK)
      (refine WC.seq ?_; intro K hK)
      refine WC.region rfl ?_
      refine WL.want rfl (WL1.give rfl (g_move rfl (.mk (v := .int _ _) rfl rfl)) ?_)
      refine WL.want rfl (WL1.give rfl (g_move rfl (.mk (v := .slice _ _ _) rfl rfl)) ?_)
      refine WL.want rfl (WL1.give rfl (g_indexAddr (sz := 1) rfl (.mk rfl rfl) (.mk rfl rfl) rfl rfl (show _ = ((0 : Nat) : Int) from rfl) (by omega) (fun _ _ => sl_some hs2 (by omega))) ?_)
      refine WL.want rfl (WL1.give rfl (g_load rfl (.mk rfl rfl) rfl (rd_sl hs2 (get1 (by omega)))) ?_)
      refine WL.want rfl (WL1.give rfl (g_len rfl (.mk rfl rfl) rfl) ?_)
      refine WL.want rfl (WL1.give rfl (g_lt rfl (.mk rfl rfl) (.mk rfl rfl) (decide_eq_true (by omega))) ?_)
      refine WL.nil ?_
      (refine hK _ _ ?_; clear hK)
      refine WC.cond_true (.mk rfl rfl) ?_
      refine WC.skip ?_
      (refine hK _ _ ?_; clear hK)
      (refine WC.seq ?_; intro K hK)
      refine WC.block ?_
      (refine WC.seq ?_; intro K hK)
      refine WC.region rfl ?_
      refine WL.want rfl (WL1.give rfl (g_assign rfl (.mk (v := .int _ _) rfl rfl)) ?_)
      refine WL.nil ?_
      (refine hK _ _ ?_; clear hK)
      (refine WC.seq ?_; intro K hK)
      (refine WC.seq ?_; intro K hK)
      refine WC.region rfl ?_
      refine WL.want rfl (WL1.give rfl (g_assign rfl (.mk (v := .int _ _) rfl rfl)) ?_)
      refine WL.nil ?_
      (refine hK _ _ ?_; clear hK)
      refine WC.block ?_
      refine WC.loopI (281474943157760) (fun q : Nat => [(10, iv q), (9, bv (gsum q fun q => el a i q * el b q k))]) (fun _ => [vec D k dc 5 1 (bvs (fstL (fun j => gsum rb.length fun q => el a i q * el b q j) k)), vec O i oc 28 1 (ro.map Row.v), rowsA ro]) (fun q => q ≤ rb.length) (fun q => rb.length - q) 0 ⟨rfl, rfl, trivial⟩ (.refl _) (by omega) ?_
      intro q W hq
      by_cases hlt3 : q < rb.length
      · have hbq := hlb q hlt3
        have hdd : (gsum (q + 1) fun q => el a i q * el b q k) = (gsum q fun q => el a i q * el b q k) + nth (nth ra i).l q * nth (nth rb q).l k := by rw [el_row hlt, el_row hlt3, ← hA, ← hB]; rfl
        obtain ⟨s, hs'⟩ : ∃ s, s = gsum q fun q => el a i q * el b q k := ⟨_, rfl⟩
        rw [← hs'] at hdd ⊢
        (refine WC.seq ?_; intro K hK)
        (refine WC.seq ?_; intro K hK)
        refine WC.region rfl ?_
        refine WL.want rfl (WL1.give rfl (g_move rfl (.mk (v := .int _ _) rfl rfl)) ?_)
        refine WL.want rfl (WL1.give rfl (g_move rfl (.mk (v := .slice _ _ _) rfl rfl)) ?_)
        refine WL.want rfl (WL1.give rfl (g_len rfl (.mk rfl rfl) rfl) ?_)
        refine WL.want rfl (WL1.give rfl (g_lt rfl (.mk rfl rfl) (.mk rfl rfl) (decide_eq_true (by omega))) ?_)
        refine WL.nil ?_
        (refine hK _ _ ?_; clear hK)
        refine WC.cond_true (.mk rfl rfl) ?_
        refine WC.skip ?_
        (refine hK _ _ ?_; clear hK)
        (refine WC.seq ?_; intro K hK)
        refine WC.block ?_
        refine WC.quiet rfl (by kernel_rfl) (by decide +kernel) ?_
        refine WQ.want rfl (WQ1.give rfl (g_move rfl (.mk (v := .int _ _) rfl rfl)) ?_)
        refine WQ.want rfl (WQ1.give rfl (g_move rfl (.mk (v := .slice _ _ _) rfl rfl)) ?_)
        refine WQ.want rfl (WQ1.give rfl (g_move rfl (.mk (v := .int _ _) rfl rfl)) ?_)
        refine WQ.want rfl (WQ1.give rfl (g_indexAddr (sz := 1) rfl (.mk rfl rfl) (.mk rfl rfl) rfl rfl rfl (by omega) (fun _ _ => sl_some hs (by omega))) ?_)
        refine WQ.want rfl (WQ1.give rfl (g_load rfl (.mk rfl rfl) rfl (rd_sl hs (get1 (by omega)))) ?_)
        refine WQ.want rfl (WQ1.give rfl (g_move rfl (.mk (v := .int _ _) rfl rfl)) ?_)
        refine WQ.want rfl (WQ1.give rfl (g_indexAddr (sz := 1) rfl (.mk rfl rfl) (.mk rfl rfl) rfl rfl rfl (by omega) (fun _ _ => sl_some (ha.row (by omega)) (by omega))) ?_)
        refine WQ.want rfl (WQ1.give rfl (g_load rfl (.mk rfl rfl) rfl (rd_sl (ha.row (by omega)) (get1 (by omega)))) ?_)
        refine WQ.want rfl (WQ1.give rfl (g_move rfl (.mk (v := .slice _ _ _) rfl rfl)) ?_)
        refine WQ.want rfl (WQ1.give rfl (g_move rfl (.mk (v := .int _ _) rfl rfl)) ?_)
        refine WQ.want rfl (WQ1.give rfl (g_indexAddr (sz := 1) rfl (.mk rfl rfl) (.mk rfl rfl) rfl rfl rfl (by omega) (fun _ _ => sl_some hs2 (by omega))) ?_)
        refine WQ.want rfl (WQ1.give rfl (g_load rfl (.mk rfl rfl) rfl (rd_sl hs2 (get1 (by omega)))) ?_)
        refine WQ.want rfl (WQ1.give rfl (g_move rfl (.mk (v := .int _ _) rfl rfl)) ?_)
        refine WQ.want rfl (WQ1.give rfl (g_indexAddr (sz := 1) rfl (.mk rfl rfl) (.mk rfl rfl) rfl rfl rfl (by omega) (fun _ _ => sl_some (hb.row (by omega)) (by omega))) ?_)
        refine WQ.want rfl (WQ1.give rfl (g_load rfl (.mk rfl rfl) rfl (rd_sl (hb.row (by omega)) (get1 (by omega)))) ?_)
        refine WQ.want rfl (WQ1.callP rfl rfl rfl (.cons (.mk (v := .int _ _) rfl rfl) (.cons (.mk (v := .int _ _) rfl rfl) .nil)) (fun w hw => Calls.belowS (rmul_c (nth (nth ra i).l q) (nth (nth rb q).l k) w)) ?_)
        refine WQ.want rfl (WQ1.give rfl (g_xor (k := .u8) rfl (.mk rfl rfl) (.mk rfl rfl) (xor_bv _ _)) ?_)
        refine WQ.want rfl (WQ1.give rfl (g_assign rfl (.mk (v := .int _ _) rfl rfl)) ?_)
        refine WQ.nil ?_
        (refine hK _ _ ?_; clear hK)
        refine WC.region rfl ?_
        refine WL.want rfl (WL1.give rfl (g_move rfl (.mk (v := .int _ _) rfl rfl)) ?_)
        refine WL.want rfl (WL1.give rfl (g_add rfl (.mk rfl rfl) (.mk rfl rfl) (IntWalk.i64_in _ (by omega))) ?_)
        refine WL.want rfl (WL1.give rfl (g_assign rfl (.mk (v := .int _ _) rfl rfl)) ?_)
        refine WL.nil ?_
        exact ⟨q + 1, (by repeat (first | with_reducible exact Out.refl _ _ | refine Out.set rfl ?_ | refine Out.put rfl ?_ | refine Out.sets rfl ?_ | refine Out.hav rfl ?_ | exact Out.refl _ _)), ⟨rfl, by rw [hdd]; rfl, trivial⟩, .refl _, by omega, by omega⟩
      · obtain rfl : q = rb.length := by omega
        (refine WC.seq ?_; intro K hK)
        (refine WC.seq ?_; intro K hK)
        refine WC.region rfl ?_
        refine WL.want rfl (WL1.give rfl (g_move rfl (.mk (v := .int _ _) rfl rfl)) ?_)
        refine WL.want rfl (WL1.give rfl (g_move rfl (.mk (v := .slice _ _ _) rfl rfl)) ?_)
        refine WL.want rfl (WL1.give rfl (g_len rfl (.mk rfl rfl) rfl) ?_)
        refine WL.want rfl (WL1.give rfl (g_lt rfl (.mk rfl rfl) (.mk rfl rfl) (decide_eq_false (by omega))) ?_)
        refine WL.nil ?_
        (refine hK _ _ ?_; clear hK)
        refine WC.cond_false (.mk rfl rfl) ?_
        refine WC.exit ?_
        (clear hK; refine hK _ _ ?_; clear hK)
        refine WC.region rfl ?_
        refine WL.want rfl (WL1.give rfl (g_move rfl (.mk (v := .slice _ _ _) rfl rfl)) ?_)
        refine WL.want rfl (WL1.give rfl (g_move rfl (.mk (v := .int _ _) rfl rfl)) ?_)
        refine WL.want rfl (WL1.lit (cs := [_]) elB rfl rfl rfl (.cons (.mk (v := .int _ _) rfl rfl) .nil) rfl (by first | (simp [Value.cells]; done) | fail) rfl rfl (fun b50 => ?_))
        refine WL.want rfl (WL1.append elB rfl rfl (.mk rfl rfl) (.mk rfl rfl) (.tail (.head)) (fun w hw => Sl.of_vec hw (.head _)) (all1 rfl) (by unfold maxLen; omega) (by omega) (fun A51 c51 => ?_))
        refine WL.want rfl (WL1.give rfl (g_assign rfl (.mk (v := .slice _ _ _) rfl rfl)) ?_)
        refine WL.nil ?_
        (refine hK _ _ ?_; clear hK)
        refine WC.region rfl ?_
        refine WL.want rfl (WL1.give rfl (g_move rfl (.mk (v := .int _ _) rfl rfl)) ?_)
        refine WL.want rfl (WL1.give rfl (g_add rfl (.mk rfl rfl) (.mk rfl rfl) (IntWalk.i64_in _ (by omega))) ?_)
        refine WL.want rfl (WL1.give rfl (g_assign rfl (.mk (v := .int _ _) rfl rfl)) ?_)
        refine WL.nil ?_
        exact ⟨k + 1, _, _, (by repeat (first | with_reducible exact Out.refl _ _ | refine Out.set rfl ?_ | refine Out.put rfl ?_ | refine Out.sets rfl ?_ | refine Out.hav rfl ?_ | exact Out.refl _ _)), ⟨rfl, rfl, trivial⟩, by rw [fstL_succ, ← bvs_snoc]; exact Imp.cons (Imp.sub (by repeat (first | exact List.nil_sublist _ | exact List.Sublist.refl _ | apply List.Sublist.cons_cons | apply List.Sublist.cons))), by omega, by omega⟩
    · obtain rfl : k = n := by omega
      have hul : (fstL (fun j => gsum rb.length fun q => el a i q * el b q j) k).length = k := fstL_len _ _
      (refine WC.seq ?_; intro K hK)
      (refine WC.seq ?_; intro K hK)
      refine WC.region rfl ?_
      refine WL.want rfl (WL1.give rfl (g_move rfl (.mk (v := .int _ _) rfl rfl)) ?_)
      refine WL.want rfl (WL1.give rfl (g_move rfl (.mk (v := .slice _ _ _) rfl rfl)) ?_)
      refine WL.want rfl (WL1.give rfl (g_indexAddr (sz := 1) rfl (.mk rfl rfl) (.mk rfl rfl) rfl rfl (show _ = ((0 : Nat) : Int) from rfl) (by omega) (fun _ _ => sl_some hs2 (by omega))) ?_)
      refine WL.want rfl (WL1.give rfl (g_load rfl (.mk rfl rfl) rfl (rd_sl hs2 (get1 (by omega)))) ?_)
      refine WL.want rfl (WL1.give rfl (g_len rfl (.mk rfl rfl) rfl) ?_)
      refine WL.want rfl (WL1.give rfl (g_lt rfl (.mk rfl rfl) (.mk rfl rfl) (decide_eq_false (by omega))) ?_)
      refine WL.nil ?_
      (refine hK _ _ ?_; clear hK)
      refine WC.cond_false (.mk rfl rfl) ?_
      refine WC.exit ?_
      (clear hK; refine hK _ _ ?_; clear hK)
      refine WC.region rfl ?_
      refine WL.want rfl (WL1.give rfl (g_move rfl (.mk (v := .slice _ _ _) rfl rfl)) ?_)
      refine WL.want rfl (WL1.give rfl (g_move rfl (.mk (v := .slice _ _ _) rfl rfl)) ?_)
      refine WL.want rfl (WL1.lit (cs := [_]) elR rfl rfl rfl (.cons (.mk (v := .slice _ _ _) rfl rfl) .nil) rfl (by first | (simp [Value.cells]; done) | fail) rfl rfl (fun b54 => ?_))
      refine WL.want rfl (WL1.append elR rfl rfl (.mk rfl rfl) (.mk rfl rfl) (.tail (.tail (.head))) (fun w hw => Sl.of_vec hw (.head _)) (all1 rfl) (by unfold maxLen; omega) (by omega) (fun A55 c55 => ?_))
      refine WL.want rfl (WL1.give rfl (g_assign rfl (.mk (v := .slice _ _ _) rfl rfl)) ?_)
      refine WL.nil ?_
      (refine hK _ _ ?_; clear hK)
      refine WC.region rfl ?_
      refine WL.want rfl (WL1.give rfl (g_move rfl (.mk (v := .int _ _) rfl rfl)) ?_)
      refine WL.want rfl (WL1.give rfl (g_add rfl (.mk rfl rfl) (.mk rfl rfl) (IntWalk.i64_in _ (by omega))) ?_)
      refine WL.want rfl (WL1.give rfl (g_assign rfl (.mk (v := .int _ _) rfl rfl)) ?_)
      refine WL.nil ?_
      refine ⟨i + 1, _, _, ro ++ [⟨D, dc, fstL (fun j => gsum rb.length fun q => el a i q * el b q j) k⟩], (by repeat (first | with_reducible exact Out.refl _ _ | refine Out.set rfl ?_ | refine Out.put rfl ?_ | refine Out.sets rfl ?_ | refine Out.hav rfl ?_ | exact Out.refl _ _)), ⟨rfl, rfl, trivial⟩, ?_, ⟨by omega, by rw [List.length_append, hrl]; rfl, by rw [els_add, hre, fstL_succ]; rfl⟩, by omega⟩
      rw [own_of hul, v_of hul, mapv_snoc]
      refine Imp.trans (Imp.add2 (rs := ro) (r := ⟨D, dc, fstL (fun j => gsum rb.length fun q => el a i q * el b q j) k⟩) (by repeat (first | exact .head | apply Take.tail)) (by repeat (first | exact .head | apply Swap.tail))) ?_
      exact Imp.pick (by repeat (first | exact .head | apply Take.tail)) (Imp.pick (by repeat (first | exact .head | apply Take.tail)) (Imp.nil _))
  · obtain rfl : i = ra.length := by omega
    (refine WC.seq ?_; intro K hK)
    (refine WC.seq ?_; intro K hK)
    refine WC.region rfl ?_
    refine WL.want rfl (WL1.give rfl (g_move rfl (.mk (v := .int _ _) rfl rfl)) ?_)
    refine WL.want rfl (WL1.give rfl (g_move rfl (.mk (v := .slice _ _ _) rfl rfl)) ?_)
    refine WL.want rfl (WL1.give rfl (g_len rfl (.mk rfl rfl) rfl) ?_)
    refine WL.want rfl (WL1.give rfl (g_lt rfl (.mk rfl rfl) (.mk rfl rfl) (decide_eq_false (by omega))) ?_)
    refine WL.nil ?_
    (refine hK _ _ ?_; clear hK)
    refine WC.cond_false (.mk rfl rfl) ?_
    refine WC.exit ?_
    (clear hK; refine hK _ _ ?_; clear hK)
    (refine WC.seq ?_; intro K hK)
    refine WC.region rfl ?_
    refine WL.want rfl (WL1.give rfl (g_move rfl (.mk (v := .slice _ _ _) rfl rfl)) ?_)
    refine WL.want rfl (WL1.give rfl (g_assign rfl (.mk (v := .slice _ _ _) rfl rfl)) ?_)
    refine WL.nil ?_
    (refine hK _ _ ?_; clear hK)
    refine WC.ret ?_
    refine fun w' hw' => ⟨_, _, rfl, hw', O, oc, ro, by rw [hrl]; rfl, by rw [matM, hrl], ?_, hrl⟩
    rw [hre, mulM, ← hA, ← hB]
    have e1 : a.length = ra.length := by rw [hA, els_len]
    have e2 : b.length = rb.length := by rw [hB, els_len]
    have e3 : (nth b 0).length = n := by rw [hB, els_at (by omega)]; exact hb0
    rw [e1, e2, e3]; rfl
set_option maxRecDepth 20000 in
set_option maxHeartbeats 2000000 in
theorem copied_n (va : Value) (ra : List Row) (w : World) (ha : MatAt w va ra) (h1 : ra.length ≤ 1000) (h2 : ∀ i, i < ra.length → (nth ra i).l.length ≤ 1000) : Calls Try.prog 28 #[va] w fun e w' => ∃ v' M, e = .returned v' ∧ H w M w' ∧ ∃ A cc rs, v' = .slice A rs.length cc ∧ M = matM A cc rs ∧ els rs = els ra ∧ rs.length = ra.length := by
  obtain ⟨A, c, rfl, hc, hm, hs⟩ := ha.1.open_
  refine calls_wc (args := [.slice A ra.length c]) [2] [] Try.func28 rfl Try.ntmps28 rfl rfl rfl rfl (H.refl w) ?_
  (refine WC.seq ?_; intro K hK)
  refine WC.region rfl ?_
  refine WL.want rfl (WL1.give rfl (g_assign rfl (.mk (v := .slice _ _ _) rfl rfl)) ?_)
  refine WL.nil ?_
  (refine hK _ _ ?_; clear hK)
  (refine WC.seq ?_; intro K hK)
  refine WC.region rfl ?_
  refine WL.want rfl (WL1.give rfl (g_assign rfl (.mk (v := .slice _ _ _) rfl rfl)) ?_)
  refine WL.nil ?_
  (refine hK _ _ ?_; clear hK)
  (refine WC.seq ?_; intro K hK)
  (refine WC.seq ?_; intro K hK)
  refine WC.region rfl ?_
  refine WL.want rfl (WL1.give rfl (g_assign rfl (.mk (v := .int _ _) rfl rfl)) ?_)
  refine WL.nil ?_
  (refine hK _ _ ?_; clear hK)
  refine WC.block ?_
  refine WC.nilvec 28 1 ?_
  refine WC.loopI4 (1048568) (fun (i : Nat) (O : Option Addr) (oc : Nat) (ro : List Row) => [(4, iv i), (3, .slice O i oc)]) (fun i O oc ro => [vec O i oc 28 1 (ro.map Row.v), rowsA ro]) (fun i _ _ ro => i ≤ ra.length ∧ ro.length = i ∧ els ro = (els ra).take i) (fun i _ _ _ => ra.length - i) 0 none 0 [] ⟨rfl, rfl, trivial⟩ (Imp.cons (Imp.rows_nil _)) ⟨by omega, rfl, rfl⟩ ?_
  rintro i O oc ro U ⟨hi, hrl, hre⟩
  by_cases hlt : i < ra.length
  · have hli := h2 i hlt
    have hrow := ha.row hlt
    have hul : (nth ra i).l.length = 0 + (nth ra i).l.length := by omega
    (refine WC.seq ?_; intro K hK)
    (refine WC.seq ?_; intro K hK)
    refine WC.region rfl ?_
    refine WL.want rfl (WL1.give rfl (g_move rfl (.mk (v := .int _ _) rfl rfl)) ?_)
    refine WL.want rfl (WL1.give rfl (g_move rfl (.mk (v := .slice _ _ _) rfl rfl)) ?_)
    refine WL.want rfl (WL1.give rfl (g_len rfl (.mk rfl rfl) rfl) ?_)
    refine WL.want rfl (WL1.give rfl (g_lt rfl (.mk rfl rfl) (.mk rfl rfl) (decide_eq_true (by omega))) ?_)
    refine WL.nil ?_
    (refine hK _ _ ?_; clear hK)
    refine WC.cond_true (.mk rfl rfl) ?_
    refine WC.skip ?_
    (refine hK _ _ ?_; clear hK)
    (refine WC.seq ?_; intro K hK)
    refine WC.block ?_
    refine WC.region rfl ?_
    refine WL.want rfl (WL1.give rfl (g_move rfl (.mk (v := .slice _ _ _) rfl rfl)) ?_)
    refine WL.want rfl (WL1.lit (cs := []) elB rfl rfl rfl .nil rfl (by first | (simp [Value.cells]; done) | fail) rfl rfl (fun b12 => ?_))
    refine WL.want rfl (WL1.give rfl (g_move rfl (.mk (v := .slice _ _ _) rfl rfl)) ?_)
    refine WL.want rfl (WL1.give rfl (g_move rfl (.mk (v := .int _ _) rfl rfl)) ?_)
    refine WL.want rfl (WL1.give rfl (g_indexAddr (sz := 1) rfl (.mk rfl rfl) (.mk rfl rfl) rfl rfl rfl (by omega) (fun _ _ => sl_some hs (by omega))) ?_)
    refine WL.want rfl (WL1.give rfl (g_load rfl (.mk rfl rfl) rfl (rd_sl hs (get1 (by omega)))) ?_)
    refine WL.want rfl (WL1.append elB rfl rfl (.mk rfl rfl) (.mk rfl rfl) (.head) (fun w hw => Sl.below hrow hw.1) (bvs_one _) (by unfold maxLen; omega) (by omega) (fun A17 c17 => ?_))
    refine WL.want rfl (WL1.lit (cs := [_]) elR rfl rfl rfl (.cons (.mk (v := .slice _ _ _) rfl rfl) .nil) rfl (by first | (simp [Value.cells]; done) | fail) rfl rfl (fun b18 => ?_))
    refine WL.want rfl (WL1.append elR rfl rfl (.mk rfl rfl) (.mk rfl rfl) (.tail (.tail (.head))) (fun w hw => Sl.of_vec hw (.head _)) (all1 rfl) (by unfold maxLen; omega) (by omega) (fun A19 c19 => ?_))
    refine WL.want rfl (WL1.give rfl (g_assign rfl (.mk (v := .slice _ _ _) rfl rfl)) ?_)
    refine WL.nil ?_
    (refine hK _ _ ?_; clear hK)
    refine WC.region rfl ?_
    refine WL.want rfl (WL1.give rfl (g_move rfl (.mk (v := .int _ _) rfl rfl)) ?_)
    refine WL.want rfl (WL1.give rfl (g_add rfl (.mk rfl rfl) (.mk rfl rfl) (IntWalk.i64_in _ (by omega))) ?_)
    refine WL.want rfl (WL1.give rfl (g_assign rfl (.mk (v := .int _ _) rfl rfl)) ?_)
    refine WL.nil ?_
    refine ⟨i + 1, _, _, ro ++ [⟨A17, c17, (nth ra i).l⟩], (by repeat (first | with_reducible exact Out.refl _ _ | refine Out.set rfl ?_ | refine Out.put rfl ?_ | refine Out.sets rfl ?_ | refine Out.hav rfl ?_ | exact Out.refl _ _)), ⟨rfl, rfl, trivial⟩, ?_, ⟨by omega, by rw [List.length_append, hrl]; rfl, by rw [els_add, hre, take_succ_nth (by rw [els_len]; exact hlt), els_at hlt]⟩, by omega⟩
    rw [List.nil_append, own_of hul, v_of hul, mapv_snoc]
    refine Imp.trans (Imp.add2 (rs := ro) (r := ⟨A17, c17, (nth ra i).l⟩) (by repeat (first | exact .head | apply Take.tail)) (by repeat (first | exact .head | apply Swap.tail))) ?_
    exact Imp.pick (by repeat (first | exact .head | apply Take.tail)) (Imp.pick (by repeat (first | exact .head | apply Take.tail)) (Imp.nil _))
  · obtain rfl : i = ra.length := by omega
    (refine WC.seq ?_; intro K hK)
    (refine WC.seq ?_; intro K hK)
    refine WC.region rfl ?_
    refine WL.want rfl (WL1.give rfl (g_move rfl (.mk (v := .int _ _) rfl rfl)) ?_)
    refine WL.want rfl (WL1.give rfl (g_move rfl (.mk (v := .slice _ _ _) rfl rfl)) ?_)
    refine WL.want rfl (WL1.give rfl (g_len rfl (.mk rfl rfl) rfl) ?_)
    refine WL.want rfl (WL1.give rfl (g_lt rfl (.mk rfl rfl) (.mk rfl rfl) (decide_eq_false (by omega))) ?_)
    refine WL.nil ?_
    (refine hK _ _ ?_; clear hK)
    refine WC.cond_false (.mk rfl rfl) ?_
    refine WC.exit ?_
    (clear hK; refine hK _ _ ?_; clear hK)
    (refine WC.seq ?_; intro K hK)
    refine WC.region rfl ?_
    refine WL.want rfl (WL1.give rfl (g_move rfl (.mk (v := .slice _ _ _) rfl rfl)) ?_)
    refine WL.want rfl (WL1.give rfl (g_assign rfl (.mk (v := .slice _ _ _) rfl rfl)) ?_)
    refine WL.nil ?_
    (refine hK _ _ ?_; clear hK)
    refine WC.ret ?_
    exact fun w' hw' => ⟨_, _, rfl, hw', O, oc, ro, by rw [hrl]; rfl, by rw [matM, hrl], by rw [hre, ← els_len ra, List.take_length], hrl⟩
/-- Some rows. -/
def rowsM (m : List (List G)) (sel : List Nat) : List (List G) := sel.map fun k => nth m k
theorem rowsM_len (m : List (List G)) (sel : List Nat) : (rowsM m sel).length = sel.length := by simp [rowsM]
theorem rowsM_at {m : List (List G)} {sel : List Nat} {k : Nat} (h : k < sel.length) : nth (rowsM m sel) k = nth m (nth sel k) := nth_map _ h
set_option maxRecDepth 20000 in
set_option maxHeartbeats 2000000 in
theorem rrows_n (va vs : Value) (ra : List Row) (sel : List Nat) (w : World) (ha : MatAt w va ra) (hv : Sl w 1 vs sel.length (ldv sel)) (hsel : ∀ k, k < sel.length → nth sel k < ra.length) (h1 : sel.length ≤ 1000) (h2 : ∀ i, i < ra.length → (nth ra i).l.length ≤ 1000) : Calls Try.prog 21 #[va, vs] w fun e w' => ∃ v' M, e = .returned v' ∧ H w M w' ∧ ∃ A cc rs, v' = .slice A rs.length cc ∧ M = matM A cc rs ∧ els rs = rowsM (els ra) sel ∧ rs.length = sel.length := by
  obtain ⟨A, c, rfl, hc, hm, hs⟩ := ha.1.open_
  obtain ⟨A2, c2, rfl, hc2, hm2, hs2⟩ := hv.open_
  refine calls_wc (args := [.slice A ra.length c, .slice A2 sel.length c2]) [4] [] Try.func21 rfl Try.ntmps21 rfl rfl rfl rfl (H.refl w) ?_
  (refine WC.seq ?_; intro K hK)
  refine WC.region rfl ?_
  refine WL.want rfl (WL1.give rfl (g_assign rfl (.mk (v := .slice _ _ _) rfl rfl)) ?_)
  refine WL.nil ?_
  (refine hK _ _ ?_; clear hK)
  (refine WC.seq ?_; intro K hK)
  refine WC.region rfl ?_
  refine WL.want rfl (WL1.give rfl (g_assign rfl (.mk (v := .slice _ _ _) rfl rfl)) ?_)
  refine WL.nil ?_
  (refine hK _ _ ?_; clear hK)
  (refine WC.seq ?_; intro K hK)
  (refine WC.seq ?_; intro K hK)
  refine WC.region rfl ?_
  refine WL.want rfl (WL1.give rfl (g_assign rfl (.mk (v := .int _ _) rfl rfl)) ?_)
  refine WL.nil ?_
  (refine hK _ _ ?_; clear hK)
  refine WC.block ?_
  refine WC.nilvec 28 1 ?_
  refine WC.loopI4 (33554400) (fun (i : Nat) (O : Option Addr) (oc : Nat) (ro : List Row) => [(6, iv i), (5, .slice O i oc)]) (fun i O oc ro => [vec O i oc 28 1 (ro.map Row.v), rowsA ro]) (fun i _ _ ro => i ≤ sel.length ∧ ro.length = i ∧ els ro = (rowsM (els ra) sel).take i) (fun i _ _ _ => sel.length - i) 0 none 0 [] ⟨rfl, rfl, trivial⟩ (Imp.cons (Imp.rows_nil _)) ⟨by omega, rfl, rfl⟩ ?_
  rintro i O oc ro U ⟨hi, hrl, hre⟩
  by_cases hlt : i < sel.length
  · have hks := hsel i hlt
    have hli := h2 _ hks
    have hrow := ha.row hks
    have hgv := ldv_get hlt
    have hul : (nth ra (nth sel i)).l.length = 0 + (nth ra (nth sel i)).l.length := by omega
    (refine WC.seq ?_; intro K hK)
    (refine WC.seq ?_; intro K hK)
    refine WC.region rfl ?_
    refine WL.want rfl (WL1.give rfl (g_move rfl (.mk (v := .int _ _) rfl rfl)) ?_)
    refine WL.want rfl (WL1.give rfl (g_move rfl (.mk (v := .slice _ _ _) rfl rfl)) ?_)
    refine WL.want rfl (WL1.give rfl (g_len rfl (.mk rfl rfl) rfl) ?_)
    refine WL.want rfl (WL1.give rfl (g_lt rfl (.mk rfl rfl) (.mk rfl rfl) (decide_eq_true (by omega))) ?_)
    refine WL.nil ?_
    (refine hK _ _ ?_; clear hK)
    refine WC.cond_true (.mk rfl rfl) ?_
    refine WC.skip ?_
    (refine hK _ _ ?_; clear hK)
    (refine WC.seq ?_; intro K hK)
    refine WC.block ?_
    refine WC.region rfl ?_
    refine WL.want rfl (WL1.give rfl (g_move rfl (.mk (v := .slice _ _ _) rfl rfl)) ?_)
    refine WL.want rfl (WL1.lit (cs := []) elB rfl rfl rfl .nil rfl (by first | (simp [Value.cells]; done) | fail) rfl rfl (fun b14 => ?_))
    refine WL.want rfl (WL1.give rfl (g_move rfl (.mk (v := .slice _ _ _) rfl rfl)) ?_)
    refine WL.want rfl (WL1.give rfl (g_move rfl (.mk (v := .slice _ _ _) rfl rfl)) ?_)
    refine WL.want rfl (WL1.give rfl (g_move rfl (.mk (v := .int _ _) rfl rfl)) ?_)
    refine WL.want rfl (WL1.give rfl (g_indexAddr (sz := 1) rfl (.mk rfl rfl) (.mk rfl rfl) rfl rfl rfl (by omega) (fun _ _ => sl_some hs2 (by omega))) ?_)
    refine WL.want rfl (WL1.give rfl (g_load rfl (.mk rfl rfl) rfl (rd_sl hs2 hgv)) ?_)
    refine WL.want rfl (WL1.give rfl (g_indexAddr (sz := 1) rfl (.mk rfl rfl) (.mk rfl rfl) rfl rfl rfl (by omega) (fun _ _ => sl_some hs (by omega))) ?_)
    refine WL.want rfl (WL1.give rfl (g_load rfl (.mk rfl rfl) rfl (rd_sl hs (get1 (by omega)))) ?_)
    refine WL.want rfl (WL1.append elB rfl rfl (.mk rfl rfl) (.mk rfl rfl) (.head) (fun w hw => Sl.below hrow hw.1) (bvs_one _) (by unfold maxLen; omega) (by omega) (fun A22 c22 => ?_))
    refine WL.want rfl (WL1.lit (cs := [_]) elR rfl rfl rfl (.cons (.mk (v := .slice _ _ _) rfl rfl) .nil) rfl (by first | (simp [Value.cells]; done) | fail) rfl rfl (fun b23 => ?_))
    refine WL.want rfl (WL1.append elR rfl rfl (.mk rfl rfl) (.mk rfl rfl) (.tail (.tail (.head))) (fun w hw => Sl.of_vec hw (.head _)) (all1 rfl) (by unfold maxLen; omega) (by omega) (fun A24 c24 => ?_))
    refine WL.want rfl (WL1.give rfl (g_assign rfl (.mk (v := .slice _ _ _) rfl rfl)) ?_)
    refine WL.nil ?_
    (refine hK _ _ ?_; clear hK)
    refine WC.region rfl ?_
    refine WL.want rfl (WL1.give rfl (g_move rfl (.mk (v := .int _ _) rfl rfl)) ?_)
    refine WL.want rfl (WL1.give rfl (g_add rfl (.mk rfl rfl) (.mk rfl rfl) (IntWalk.i64_in _ (by omega))) ?_)
    refine WL.want rfl (WL1.give rfl (g_assign rfl (.mk (v := .int _ _) rfl rfl)) ?_)
    refine WL.nil ?_
    refine ⟨i + 1, _, _, ro ++ [⟨A22, c22, (nth ra (nth sel i)).l⟩], (by repeat (first | with_reducible exact Out.refl _ _ | refine Out.set rfl ?_ | refine Out.put rfl ?_ | refine Out.sets rfl ?_ | refine Out.hav rfl ?_ | exact Out.refl _ _)), ⟨rfl, rfl, trivial⟩, ?_, ⟨by omega, by rw [List.length_append, hrl]; rfl, by rw [els_add, hre, take_succ_nth (by rw [rowsM_len]; exact hlt), rowsM_at hlt, els_at hks]⟩, by omega⟩
    rw [List.nil_append, own_of hul, v_of hul, mapv_snoc]
    refine Imp.trans (Imp.add2 (rs := ro) (r := ⟨A22, c22, (nth ra (nth sel i)).l⟩) (by repeat (first | exact .head | apply Take.tail)) (by repeat (first | exact .head | apply Swap.tail))) ?_
    exact Imp.pick (by repeat (first | exact .head | apply Take.tail)) (Imp.pick (by repeat (first | exact .head | apply Take.tail)) (Imp.nil _))
  · obtain rfl : i = sel.length := by omega
    (refine WC.seq ?_; intro K hK)
    (refine WC.seq ?_; intro K hK)
    refine WC.region rfl ?_
    refine WL.want rfl (WL1.give rfl (g_move rfl (.mk (v := .int _ _) rfl rfl)) ?_)
    refine WL.want rfl (WL1.give rfl (g_move rfl (.mk (v := .slice _ _ _) rfl rfl)) ?_)
    refine WL.want rfl (WL1.give rfl (g_len rfl (.mk rfl rfl) rfl) ?_)
    refine WL.want rfl (WL1.give rfl (g_lt rfl (.mk rfl rfl) (.mk rfl rfl) (decide_eq_false (by omega))) ?_)
    refine WL.nil ?_
    (refine hK _ _ ?_; clear hK)
    refine WC.cond_false (.mk rfl rfl) ?_
    refine WC.exit ?_
    (clear hK; refine hK _ _ ?_; clear hK)
    (refine WC.seq ?_; intro K hK)
    refine WC.region rfl ?_
    refine WL.want rfl (WL1.give rfl (g_move rfl (.mk (v := .slice _ _ _) rfl rfl)) ?_)
    refine WL.want rfl (WL1.give rfl (g_assign rfl (.mk (v := .slice _ _ _) rfl rfl)) ?_)
    refine WL.nil ?_
    (refine hK _ _ ?_; clear hK)
    refine WC.ret ?_
    exact fun w' hw' => ⟨_, _, rfl, hw', O, oc, ro, by rw [hrl]; rfl, by rw [matM, hrl], by rw [hre, ← rowsM_len (els ra) sel, List.take_length], hrl⟩
theorem MatAt.some {w0 w : World} {L : List Asrt} {va : Value} {ra : List Row} {sel : List Nat} {A : Option Addr} {c : Nat} (ha : MatAt w va ra) (hsel : ∀ k, k < sel.length → nth sel k < ra.length) (hw : H w0 L w) (hm : vec A sel.length c 28 1 ((sel.map fun k => nth ra k).map Row.v) ∈ L) : MatAt w (.slice A sel.length c) (sel.map fun k => nth ra k) := by
  have h := Sl.of_vec hw hm
  refine ⟨by rw [List.length_map]; exact h, fun r hr => ?_⟩
  obtain ⟨k, hk, rfl⟩ := List.mem_map.1 hr
  obtain ⟨i, hi, rfl⟩ := List.getElem_of_mem hk
  have := hsel i hi
  rw [nth_eq hi] at this
  exact ha.row this
theorem els_some (ra : List Row) (sel : List Nat) (hsel : ∀ k, k < sel.length → nth sel k < ra.length) : els (sel.map fun k => nth ra k) = rowsM (els ra) sel := by
  unfold els rowsM
  rw [List.map_map]
  refine List.map_congr_left fun k hk => ?_
  obtain ⟨i, hi, rfl⟩ := List.getElem_of_mem hk
  have := hsel i hi
  rw [nth_eq hi] at this
  exact (els_at this).symm
set_option maxRecDepth 20000 in
set_option maxHeartbeats 2000000 in
theorem leftInverse_n (va : Value) (ra : List Row) (v : List (List G)) (w : World) (ha : MatAt w va ra) (hg : Good (els ra)) (hsel : ∀ k, k < (indep (els ra)).length → nth (indep (els ra)) k < ra.length) (hr : (indep (els ra)).length = (nth ra 0).l.length) (hv : invM (rowsM (els ra) (indep (els ra))) = some v) :
    Calls Try.prog 19 #[va] w fun e w' => ∃ v' M, e = .returned v' ∧ H w M w' ∧ ∃ A cc rs Ai ci, v' = .tuple #[.slice A rs.length cc, .slice Ai (indep (els ra)).length ci, iv 0] ∧ M = matM A cc rs ++ [vec Ai (indep (els ra)).length ci 3 1 (ldv (indep (els ra)))] ∧ els rs = v ∧ rs.length = (indep (els ra)).length := by
  obtain ⟨A, c, rfl, hcc, hm, hs⟩ := ha.1.open_
  have hval := fun w' hb => valid_e _ ra w' (ha.below (w' := w') hb)
  rw [goodB_iff.2 hg] at hval
  obtain ⟨g1, g2, g3, g4⟩ := hg.parts
  obtain ⟨sel, hse⟩ : ∃ sel, sel = indep (els ra) := ⟨_, rfl⟩
  have hin := fun w' hb => independent_n _ ra w' (ha.below (w' := w') hb) hg
  rw [← hse] at hin hr hv hsel ⊢
  have hsq : (sel.map fun k => nth ra k).length = sel.length := by simp
  have hrow : ∀ i, i < sel.length → nth (sel.map fun k => nth ra k) i = nth ra (nth sel i) := fun i hi => nth_map _ hi
  have hgs : Good (els (sel.map fun k => nth ra k)) := good_of (by omega) (by omega) (by rw [hrow 0 (by omega), hg.row (hsel 0 (by omega))]; omega) (by rw [hrow 0 (by omega), hg.row (hsel 0 (by omega))]; omega) fun k hk => by rw [hrow k (by omega), hrow 0 (by omega), hg.row (hsel k (by omega)), hg.row (hsel 0 (by omega))]
  have hsqr : (nth (sel.map fun k => nth ra k) 0).l.length = (sel.map fun k => nth ra k).length := by rw [hrow 0 (by omega), hg.row (hsel 0 (by omega)), hsq, hr]
  have hv2 : invM (els (sel.map fun k => nth ra k)) = some v := by rw [els_some ra sel hsel]; exact hv
  refine calls_wc (args := [.slice A ra.length c]) [2, 3, 4] [] Try.func19 rfl Try.ntmps19 rfl rfl rfl rfl (H.refl w) ?_
  (refine WC.seq ?_; intro K hK)
  refine WC.region rfl ?_
  refine WL.want rfl (WL1.give rfl (g_assign rfl (.mk (v := .slice _ _ _) rfl rfl)) ?_)
  refine WL.want rfl (WL1.give rfl (g_assign rfl (.mk (v := .slice _ _ _) rfl rfl)) ?_)
  refine WL.want rfl (WL1.give rfl (g_assign rfl (.mk (v := .int _ _) rfl rfl)) ?_)
  refine WL.nil ?_
  (refine hK _ _ ?_; clear hK)
  (refine WC.seq ?_; intro K hK)
  (refine WC.seq ?_; intro K hK)
  refine WC.region rfl ?_
  refine WL.want rfl (WL1.give rfl (g_move rfl (.mk (v := .slice _ _ _) rfl rfl)) ?_)
  refine WL.want rfl (WL1.callP rfl rfl rfl (.cons (.mk (v := .slice _ _ _) rfl rfl) .nil) (fun w hw => hval w hw.1) ?_)
  refine WL.want rfl (WL1.give rfl (g_notT rfl (.mk rfl rfl)) ?_)
  refine WL.nil ?_
  (refine hK _ _ ?_; clear hK)
  refine WC.cond_false (.mk rfl rfl) ?_
  refine WC.skip ?_
  (refine hK _ _ ?_; clear hK)
  (refine WC.seq ?_; intro K hK)
  refine WC.region rfl ?_
  refine WL.want rfl (WL1.give rfl (g_move rfl (.mk (v := .slice _ _ _) rfl rfl)) ?_)
  (refine WL.want rfl (WL1.callN rfl rfl rfl (.cons (.mk (v := .slice _ _ _) rfl rfl) .nil) (fun w hw => hin w hw.1) ?_); rintro _ _ ⟨Ai, ci, rfl, rfl⟩)
  refine WL.want rfl (WL1.give rfl (g_assign rfl (.mk (v := .slice _ _ _) rfl rfl)) ?_)
  refine WL.nil ?_
  (refine hK _ _ ?_; clear hK)
  (refine WC.seq ?_; intro K hK)
  (refine WC.seq ?_; intro K hK)
  refine WC.region rfl ?_
  refine WL.want rfl (WL1.give rfl (g_move rfl (.mk (v := .slice _ _ _) rfl rfl)) ?_)
  refine WL.want rfl (WL1.give rfl (g_len rfl (.mk rfl rfl) rfl) ?_)
  refine WL.want rfl (WL1.give rfl (g_move rfl (.mk (v := .slice _ _ _) rfl rfl)) ?_)
  refine WL.want rfl (WL1.give rfl (g_indexAddr (sz := 1) rfl (.mk rfl rfl) (.mk rfl rfl) rfl rfl (show _ = ((0 : Nat) : Int) from rfl) (by omega) (fun _ _ => sl_some hs (by omega))) ?_)
  refine WL.want rfl (WL1.give rfl (g_load rfl (.mk rfl rfl) rfl (rd_sl hs (get1 (by omega)))) ?_)
  refine WL.want rfl (WL1.give rfl (g_len rfl (.mk rfl rfl) rfl) ?_)
  refine WL.want rfl (WL1.give rfl (g_lt rfl (.mk rfl rfl) (.mk rfl rfl) (decide_eq_false (by omega))) ?_)
  refine WL.nil ?_
  (refine hK _ _ ?_; clear hK)
  refine WC.cond_false (.mk rfl rfl) ?_
  refine WC.skip ?_
  (refine hK _ _ ?_; clear hK)
  (refine WC.seq ?_; intro K hK)
  refine WC.region rfl ?_
  refine WL.want rfl (WL1.give rfl (g_assign rfl (.mk (v := .slice _ _ _) rfl rfl)) ?_)
  refine WL.nil ?_
  (refine hK _ _ ?_; clear hK)
  (refine WC.seq ?_; intro K hK)
  (refine WC.seq ?_; intro K hK)
  refine WC.region rfl ?_
  refine WL.want rfl (WL1.give rfl (g_move rfl (.mk (v := .slice _ _ _) rfl rfl)) ?_)
  refine WL.want rfl (WL1.give rfl (g_len rfl (.mk rfl rfl) rfl) ?_)
  refine WL.want rfl (WL1.give rfl (g_move rfl (.mk (v := .int _ _) rfl rfl)) ?_)
  refine WL.nil ?_
  (refine hK _ _ ?_; clear hK)
  refine WC.block ?_
  refine WC.nilvec 28 1 ?_
  refine WC.loopI3 (137405399360) (fun (i : Nat) (O : Option Addr) (oc : Nat) => [(25, iv i), (6, .slice O i oc)]) (fun i O oc => [vec O i oc 28 1 (((sel.map fun k => nth ra k).map Row.v).take i), vec Ai sel.length ci 3 1 (ldv sel)]) (fun i _ _ => i ≤ sel.length) (fun i _ _ => sel.length - i) 0 none 0 ⟨rfl, rfl, trivial⟩ (.refl _) (by omega) ?_
  intro i O oc U hi
  by_cases hlt : i < sel.length
  · have hks := hsel i hlt
    have hgv := ldv_get hlt
    have htk : ((sel.map fun k => nth ra k).map Row.v).take (i + 1) = ((sel.map fun k => nth ra k).map Row.v).take i ++ [(nth ra (nth sel i)).v] := by
      rw [List.take_add_one, List.getElem?_map, List.getElem?_map, nth_get hlt]; rfl
    (refine WC.seq ?_; intro K hK)
    refine WC.region rfl ?_
    refine WL.want rfl (WL1.give rfl (g_lt rfl (.mk rfl rfl) (.mk rfl rfl) (decide_eq_true (by omega))) ?_)
    refine WL.nil ?_
    (refine hK _ _ ?_; clear hK)
    (refine WC.seq ?_; intro K hK)
    refine WC.cond_true (.mk rfl rfl) ?_
    refine WC.skip ?_
    (refine hK _ _ ?_; clear hK)
    (refine WC.seq ?_; intro K hK)
    refine WC.block ?_
    (refine WC.seq ?_; intro K hK)
    refine WC.region rfl ?_
    refine WL.want rfl (WL1.give rfl (g_indexAddr (sz := 1) rfl (.mk rfl rfl) (.mk rfl rfl) rfl rfl rfl (by omega) (fun w hw => vec_some hw (.tail _ (.head _)) (by omega))) ?_)
    refine WL.want rfl (WL1.give rfl (g_load rfl (.mk rfl rfl) rfl (rd_vec (by repeat (first | exact .head _ | apply List.Mem.tail)) hgv)) ?_)
    refine WL.want rfl (WL1.give rfl (g_assign rfl (.mk (v := .int _ _) rfl rfl)) ?_)
    refine WL.nil ?_
    (refine hK _ _ ?_; clear hK)
    refine WC.region rfl ?_
    refine WL.want rfl (WL1.give rfl (g_move rfl (.mk (v := .slice _ _ _) rfl rfl)) ?_)
    refine WL.want rfl (WL1.give rfl (g_move rfl (.mk (v := .slice _ _ _) rfl rfl)) ?_)
    refine WL.want rfl (WL1.give rfl (g_move rfl (.mk (v := .int _ _) rfl rfl)) ?_)
    refine WL.want rfl (WL1.give rfl (g_indexAddr (sz := 1) rfl (.mk rfl rfl) (.mk rfl rfl) rfl rfl rfl (by omega) (fun _ _ => sl_some hs (by omega))) ?_)
    refine WL.want rfl (WL1.give rfl (g_load rfl (.mk rfl rfl) rfl (rd_sl hs (get1 (by omega)))) ?_)
    refine WL.want rfl (WL1.lit (cs := [_]) elR rfl rfl rfl (.cons (.mk (v := .slice _ _ _) rfl rfl) .nil) rfl (by first | (simp [Value.cells]; done) | fail) rfl rfl (fun b34 => ?_))
    refine WL.want rfl (WL1.append elR rfl rfl (.mk rfl rfl) (.mk rfl rfl) (.tail (.head)) (fun w hw => Sl.of_vec hw (.head _)) (all1 rfl) (by unfold maxLen; omega) (by omega) (fun A35 c35 => ?_))
    refine WL.want rfl (WL1.give rfl (g_assign rfl (.mk (v := .slice _ _ _) rfl rfl)) ?_)
    refine WL.nil ?_
    (refine hK _ _ ?_; clear hK)
    refine WC.region rfl ?_
    refine WL.want rfl (WL1.give rfl (g_add rfl (.mk rfl rfl) (.mk rfl rfl) (IntWalk.i64_in _ (by omega))) ?_)
    refine WL.want rfl (WL1.give rfl (g_move rfl (.mk (v := .int _ _) rfl rfl)) ?_)
    refine WL.nil ?_
    exact ⟨i + 1, _, _, (by repeat (first | with_reducible exact Out.refl _ _ | refine Out.set rfl ?_ | refine Out.put rfl ?_ | refine Out.sets rfl ?_ | refine Out.hav rfl ?_ | exact Out.refl _ _)), ⟨rfl, rfl, trivial⟩, by rw [htk]; exact Imp.cons (Imp.sub (by repeat (first | exact List.nil_sublist _ | exact List.Sublist.refl _ | apply List.Sublist.cons_cons | apply List.Sublist.cons))), by omega, by omega⟩
  · obtain rfl : i = sel.length := by omega
    have htl : ((sel.map fun k => nth ra k).map Row.v).take sel.length = (sel.map fun k => nth ra k).map Row.v := List.take_of_length_le (by simp)
    rw [htl]
    have hinv : ∀ w', H w [vec O sel.length oc 28 1 ((sel.map fun k => nth ra k).map Row.v), vec Ai sel.length ci 3 1 (ldv sel)] w' → Calls Try.prog 13 #[.slice O sel.length oc] w' fun e w2 => ∃ v' M, e = .returned v' ∧ H w' M w2 ∧ ∃ A cc rs, v' = .tuple #[.slice A rs.length cc, iv 0] ∧ M = matM A cc rs ∧ els rs = v ∧ rs.length = (sel.map fun k => nth ra k).length := fun w' hw' =>
      inverse_n _ _ v w' (MatAt.some (ha.below hw'.1) hsel hw' (.head _)) hgs hsqr hv2
    (refine WC.seq ?_; intro K hK)
    refine WC.region rfl ?_
    refine WL.want rfl (WL1.give rfl (g_lt rfl (.mk rfl rfl) (.mk rfl rfl) (decide_eq_false (by omega))) ?_)
    refine WL.nil ?_
    (refine hK _ _ ?_; clear hK)
    (refine WC.seq ?_; intro K hK)
    refine WC.cond_false (.mk rfl rfl) ?_
    refine WC.exit ?_
    (clear hK; refine hK _ _ ?_; clear hK)
    (refine WC.seq ?_; intro K hK)
    refine WC.region rfl ?_
    refine WL.want rfl (WL1.give rfl (g_move rfl (.mk (v := .slice _ _ _) rfl rfl)) ?_)
    (refine WL.want rfl (WL1.callN rfl rfl rfl (.cons (.mk (v := .slice _ _ _) rfl rfl) .nil) (fun w hw => hinv w hw) ?_); rintro _ _ ⟨Ax, cx, rx, rfl, rfl, hrx, hrl⟩)
    refine WL.want rfl (WL1.give rfl (g_move rfl (.mk (v := .tuple _) rfl rfl)) ?_)
    refine WL.want rfl (WL1.give rfl (g_extract rfl (.mk rfl rfl) rfl) ?_)
    refine WL.want rfl (WL1.give rfl (g_extract rfl (.mk rfl rfl) rfl) ?_)
    refine WL.want rfl (WL1.give rfl (g_assign rfl (.mk (v := .slice _ _ _) rfl rfl)) ?_)
    refine WL.want rfl (WL1.give rfl (g_assign rfl (.mk (v := .int _ _) rfl rfl)) ?_)
    refine WL.nil ?_
    (refine hK _ _ ?_; clear hK)
    (refine WC.seq ?_; intro K hK)
    (refine WC.seq ?_; intro K hK)
    refine WC.region rfl ?_
    refine WL.want rfl (WL1.give rfl (g_move rfl (.mk (v := .int _ _) rfl rfl)) ?_)
    refine WL.want rfl (WL1.give rfl (g_ne rfl (.mk rfl rfl) (.mk rfl rfl) (decide_eq_false (by omega))) ?_)
    refine WL.nil ?_
    (refine hK _ _ ?_; clear hK)
    refine WC.cond_false (.mk rfl rfl) ?_
    refine WC.skip ?_
    (refine hK _ _ ?_; clear hK)
    (refine WC.seq ?_; intro K hK)
    refine WC.region rfl ?_
    refine WL.want rfl (WL1.give rfl (g_move rfl (.mk (v := .slice _ _ _) rfl rfl)) ?_)
    refine WL.want rfl (WL1.give rfl (g_move rfl (.mk (v := .slice _ _ _) rfl rfl)) ?_)
    refine WL.want rfl (WL1.give rfl (g_assign rfl (.mk (v := .slice _ _ _) rfl rfl)) ?_)
    refine WL.want rfl (WL1.give rfl (g_assign rfl (.mk (v := .slice _ _ _) rfl rfl)) ?_)
    refine WL.want rfl (WL1.give rfl (g_assign rfl (.mk (v := .int _ _) rfl rfl)) ?_)
    refine WL.nil ?_
    (refine hK _ _ ?_; clear hK)
    refine WC.ret ?_
    exact fun w' hw' => ⟨_, _, rfl, hw'.sub (.cons_cons _ (.cons_cons _ (.cons _ (.refl _)))), Ax, cx, rx, Ai, ci, rfl, rfl, hrx, by rw [hrl, hsq]⟩
set_option maxRecDepth 20000 in
set_option maxHeartbeats 1000000 in
theorem leftInverse_few (va : Value) (ra : List Row) (w : World) (ha : MatAt w va ra) (hg : Good (els ra)) (hr : (indep (els ra)).length < (nth ra 0).l.length) :
    Calls Try.prog 19 #[va] w fun e w' => e = .returned (.tuple #[.slice none 0 0, .slice none 0 0, iv 3]) ∧ Below w.heap.size w w' := by
  obtain ⟨A, c, rfl, hcc, hm, hs⟩ := ha.1.open_
  have hval := fun w' hb => valid_e _ ra w' (ha.below (w' := w') hb)
  rw [goodB_iff.2 hg] at hval
  obtain ⟨g1, g2, g3, g4⟩ := hg.parts
  refine calls_wc (args := [.slice A ra.length c]) [2, 3, 4] [] Try.func19 rfl Try.ntmps19 rfl rfl rfl rfl (H.refl w) ?_
  (refine WC.seq ?_; intro K hK)
  refine WC.region rfl ?_
  refine WL.want rfl (WL1.give rfl (g_assign rfl (.mk (v := .slice _ _ _) rfl rfl)) ?_)
  refine WL.want rfl (WL1.give rfl (g_assign rfl (.mk (v := .slice _ _ _) rfl rfl)) ?_)
  refine WL.want rfl (WL1.give rfl (g_assign rfl (.mk (v := .int _ _) rfl rfl)) ?_)
  refine WL.nil ?_
  (refine hK _ _ ?_; clear hK)
  (refine WC.seq ?_; intro K hK)
  (refine WC.seq ?_; intro K hK)
  refine WC.region rfl ?_
  refine WL.want rfl (WL1.give rfl (g_move rfl (.mk (v := .slice _ _ _) rfl rfl)) ?_)
  refine WL.want rfl (WL1.callP rfl rfl rfl (.cons (.mk (v := .slice _ _ _) rfl rfl) .nil) (fun w hw => hval w hw.1) ?_)
  refine WL.want rfl (WL1.give rfl (g_notT rfl (.mk rfl rfl)) ?_)
  refine WL.nil ?_
  (refine hK _ _ ?_; clear hK)
  refine WC.cond_false (.mk rfl rfl) ?_
  refine WC.skip ?_
  (refine hK _ _ ?_; clear hK)
  (refine WC.seq ?_; intro K hK)
  refine WC.region rfl ?_
  refine WL.want rfl (WL1.give rfl (g_move rfl (.mk (v := .slice _ _ _) rfl rfl)) ?_)
  (refine WL.want rfl (WL1.callN rfl rfl rfl (.cons (.mk (v := .slice _ _ _) rfl rfl) .nil) (fun w hw => independent_n _ ra w (ha.below hw.1) hg) ?_); rintro _ _ ⟨Ai, ci, rfl, rfl⟩)
  refine WL.want rfl (WL1.give rfl (g_assign rfl (.mk (v := .slice _ _ _) rfl rfl)) ?_)
  refine WL.nil ?_
  (refine hK _ _ ?_; clear hK)
  (refine WC.seq ?_; intro K hK)
  (refine WC.seq ?_; intro K hK)
  refine WC.region rfl ?_
  refine WL.want rfl (WL1.give rfl (g_move rfl (.mk (v := .slice _ _ _) rfl rfl)) ?_)
  refine WL.want rfl (WL1.give rfl (g_len rfl (.mk rfl rfl) rfl) ?_)
  refine WL.want rfl (WL1.give rfl (g_move rfl (.mk (v := .slice _ _ _) rfl rfl)) ?_)
  refine WL.want rfl (WL1.give rfl (g_indexAddr (sz := 1) rfl (.mk rfl rfl) (.mk rfl rfl) rfl rfl (show _ = ((0 : Nat) : Int) from rfl) (by omega) (fun _ _ => sl_some hs (by omega))) ?_)
  refine WL.want rfl (WL1.give rfl (g_load rfl (.mk rfl rfl) rfl (rd_sl hs (get1 (by omega)))) ?_)
  refine WL.want rfl (WL1.give rfl (g_len rfl (.mk rfl rfl) rfl) ?_)
  refine WL.want rfl (WL1.give rfl (g_lt rfl (.mk rfl rfl) (.mk rfl rfl) (decide_eq_true (by omega))) ?_)
  refine WL.nil ?_
  (refine hK _ _ ?_; clear hK)
  refine WC.cond_true (.mk rfl rfl) ?_
  (refine WC.seq ?_; intro K hK)
  refine WC.region rfl ?_
  refine WL.want rfl (WL1.give rfl (g_assign rfl (.mk (v := .slice _ _ _) rfl rfl)) ?_)
  refine WL.want rfl (WL1.give rfl (g_assign rfl (.mk (v := .slice _ _ _) rfl rfl)) ?_)
  refine WL.want rfl (WL1.give rfl (g_assign rfl (.mk (v := .int _ _) rfl rfl)) ?_)
  refine WL.nil ?_
  (refine hK _ _ ?_; clear hK)
  refine WC.ret ?_
  exact fun w' hw' => ⟨rfl, hw'.1⟩
set_option maxRecDepth 20000 in
set_option maxHeartbeats 1000000 in
theorem leftInverse_bad (va : Value) (ra : List Row) (w : World) (ha : MatAt w va ra) (hg : ¬ Good (els ra)) :
    Calls Try.prog 19 #[va] w fun e w' => e = .returned (.tuple #[.slice none 0 0, .slice none 0 0, iv 1]) ∧ Below w.heap.size w w' := by
  obtain ⟨A, c, rfl, hcc, hm, hs⟩ := ha.1.open_
  have hval := fun w' hb => valid_e _ ra w' (ha.below (w' := w') hb)
  rw [goodB_no hg] at hval
  refine calls_wc (args := [.slice A ra.length c]) [2, 3, 4] [] Try.func19 rfl Try.ntmps19 rfl rfl rfl rfl (H.refl w) ?_
  (refine WC.seq ?_; intro K hK)
  refine WC.region rfl ?_
  refine WL.want rfl (WL1.give rfl (g_assign rfl (.mk (v := .slice _ _ _) rfl rfl)) ?_)
  refine WL.want rfl (WL1.give rfl (g_assign rfl (.mk (v := .slice _ _ _) rfl rfl)) ?_)
  refine WL.want rfl (WL1.give rfl (g_assign rfl (.mk (v := .int _ _) rfl rfl)) ?_)
  refine WL.nil ?_
  (refine hK _ _ ?_; clear hK)
  (refine WC.seq ?_; intro K hK)
  (refine WC.seq ?_; intro K hK)
  refine WC.region rfl ?_
  refine WL.want rfl (WL1.give rfl (g_move rfl (.mk (v := .slice _ _ _) rfl rfl)) ?_)
  refine WL.want rfl (WL1.callP rfl rfl rfl (.cons (.mk (v := .slice _ _ _) rfl rfl) .nil) (fun w hw => hval w hw.1) ?_)
  refine WL.want rfl (WL1.give rfl (g_notF rfl (.mk rfl rfl)) ?_)
  refine WL.nil ?_
  (refine hK _ _ ?_; clear hK)
  refine WC.cond_true (.mk rfl rfl) ?_
  (refine WC.seq ?_; intro K hK)
  refine WC.region rfl ?_
  refine WL.want rfl (WL1.give rfl (g_assign rfl (.mk (v := .slice _ _ _) rfl rfl)) ?_)
  refine WL.want rfl (WL1.give rfl (g_assign rfl (.mk (v := .slice _ _ _) rfl rfl)) ?_)
  refine WL.want rfl (WL1.give rfl (g_assign rfl (.mk (v := .int _ _) rfl rfl)) ?_)
  refine WL.nil ?_
  (refine hK _ _ ?_; clear hK)
  refine WC.ret ?_
  exact fun w' hw' => ⟨rfl, hw'.1⟩
end Go.Proofs.Ytlkemgefioiffaa
