/- Clone, IndexFunc and Inverse, walked. No condition. -/
import Derived.Test.YtlkemgefioiffaaGauss
import Derived.Test.YtlkemgefioiffaaGi
namespace Go.Proofs.Ytlkemgefioiffaa
open Go.RowKit
attribute [local irreducible] Calls
set_option maxRecDepth 20000 in
set_option maxHeartbeats 1000000 in
theorem cloneb_n (v : Value) (l : List G) (w : World) (hv : Sl w 1 v l.length (bvs l)) (h1 : 1 ≤ l.length) (h2 : l.length ≤ 100000) : Calls Try.prog 37 #[v] w fun e w' => ∃ v' M, e = .returned v' ∧ H w M w' ∧
    ∃ A c, v' = .slice A l.length c ∧ M = [vec A l.length c 5 1 (bvs l)] := by
  obtain ⟨A, c, rfl, hc, hm, hs⟩ := hv.open_
  have hA := sl_some hs (by omega)
  have hone := bvs_one l
  refine calls_wc (args := [.slice A l.length c]) [2] [] Try.func37 rfl Try.ntmps37 rfl rfl rfl rfl (H.refl w) ?_
  (refine WC.seq ?_; intro K hK)
  refine WC.region rfl ?_
  refine WL.want rfl (WL1.give rfl (g_assign rfl (.mk (v := .slice _ _ _) rfl rfl)) ?_)
  refine WL.nil ?_
  (refine hK _ _ ?_; clear hK)
  (refine WC.seq ?_; intro K hK)
  (refine WC.seq ?_; intro K hK)
  refine WC.region rfl ?_
  refine WL.want rfl (WL1.give rfl (g_move rfl (.mk (v := .slice _ _ _) rfl rfl)) ?_)
  refine WL.want rfl (WL1.give rfl (g_eqSNS rfl rfl (.mk rfl rfl) (.mk rfl rfl) ((fun _ _ => sl_some hs (by omega)))) ?_)
  refine WL.nil ?_
  (refine hK _ _ ?_; clear hK)
  refine WC.cond_false (.mk rfl rfl) ?_
  refine WC.skip ?_
  (refine hK _ _ ?_; clear hK)
  (refine WC.seq ?_; intro K hK)
  refine WC.region rfl ?_
  refine WL.want rfl (WL1.lit (cs := []) elB rfl rfl rfl .nil rfl (by first | (simp [Value.cells]; done) | fail) rfl rfl (fun b5 => ?_))
  refine WL.want rfl (WL1.give rfl (g_move rfl (.mk (v := .slice _ _ _) rfl rfl)) ?_)
  refine WL.want rfl (WL1.append elB rfl rfl (.mk rfl rfl) (.mk rfl rfl) (.head) (fun w hw => Sl.below hs hw.1) hone (by unfold maxLen; omega) (by omega) (fun A7 c7 => ?_))
  refine WL.want rfl (WL1.give rfl (g_assign rfl (.mk (v := .slice _ _ _) rfl rfl)) ?_)
  refine WL.nil ?_
  (refine hK _ _ ?_; clear hK)
  refine WC.ret ?_
  exact fun w' hw' => ⟨_, _, rfl, hw', A7, c7, by show Value.slice A7 (0 + l.length) c7 = _; rw [Nat.zero_add], by rw [Nat.zero_add, List.nil_append]⟩
/-- The closure that asks whether a row has something in column c. -/
abbrev colF (b : Nat) : Value := .func (.func 34) #[] #[cellPtr (some ⟨b, 0, none⟩) 0]
theorem decG {x : G} : decide (((x.val : Nat) : Int) ≠ 0) = nz x := by
  unfold nz
  refine decide_eq_decide.2 ⟨fun h e => h (by rw [e]; rfl), fun h e => h (G.eq_of (by show x.val = 0; omega))⟩
set_option maxRecDepth 20000 in
set_option maxHeartbeats 1000000 in
theorem colF_e (v : Value) (l : List G) (b c : Nat) (w : World) (hv : Sl w 1 v l.length (bvs l)) (hc : w.cell? ⟨b, 0, none⟩ = some (iv c)) (h : c < l.length) : Calls Try.prog 34 #[v, cellPtr (some ⟨b, 0, none⟩) 0] w fun e w' => e = .returned (.bool (nz (nth l c))) ∧ Below w.heap.size w w' := by
  obtain ⟨A, cc, rfl, hcc, hm, hs⟩ := hv.open_
  have hd := decG (x := nth l c)
  refine calls_wc (args := [.slice A l.length cc, cellPtr (some ⟨b, 0, none⟩) 0]) [3] [] Try.func34 rfl Try.ntmps34 rfl rfl rfl rfl (H.refl w) ?_
  (refine WC.seq ?_; intro K hK)
  refine WC.region rfl ?_
  refine WL.want rfl (WL1.give rfl (g_assign rfl (.mk (v := .bool _) rfl rfl)) ?_)
  refine WL.nil ?_
  (refine hK _ _ ?_; clear hK)
  (refine WC.seq ?_; intro K hK)
  refine WC.region rfl ?_
  refine WL.want rfl (WL1.give rfl (g_move rfl (.mk (v := .slice _ _ _) rfl rfl)) ?_)
  refine WL.want rfl (WL1.give rfl (g_load rfl (.mk rfl rfl) rfl (rd_wb hc)) ?_)
  refine WL.want rfl (WL1.give rfl (g_indexAddr (sz := 1) rfl (.mk rfl rfl) (.mk rfl rfl) rfl rfl rfl (by omega) (fun _ _ => sl_some hs (by omega))) ?_)
  refine WL.want rfl (WL1.give rfl (g_load rfl (.mk rfl rfl) rfl (rd_sl hs (get1 (by omega)))) ?_)
  refine WL.want rfl (WL1.give rfl (g_ne rfl (.mk rfl rfl) (.mk rfl rfl) hd) ?_)
  refine WL.want rfl (WL1.give rfl (g_assign rfl (.mk (v := .bool _) rfl rfl)) ?_)
  refine WL.nil ?_
  (refine hK _ _ ?_; clear hK)
  refine WC.ret ?_
  exact fun w' hw' => ⟨rfl, hw'.1⟩
set_option maxRecDepth 20000 in
set_option maxHeartbeats 1000000 in
theorem index_rows (v : Value) (rs : List Row) (b c : Nat) (w : World) (hv : MatAt w v rs) (hc : w.cell? ⟨b, 0, none⟩ = some (iv c)) (hl : ∀ k, k < rs.length → c < (nth rs k).l.length) :
    Calls Try.prog 33 #[v, colF b] w fun e w' => e = .returned (iv (fz (fnd (fun k => nz (nth (nth rs k).l c)) rs.length))) ∧ Below w.heap.size w w' := by
  obtain ⟨A, cc, rfl, hcc, hm, hs⟩ := hv.1.open_
  unfold maxLen at hm
  refine calls_wc (args := [.slice A rs.length cc, colF b]) [4] [] Try.func33 rfl Try.ntmps33 rfl rfl rfl rfl (H.refl w) ?_
  (refine WC.seq ?_; intro K hK)
  refine WC.region rfl ?_
  refine WL.want rfl (WL1.give rfl (g_assign rfl (.mk (v := .int _ _) rfl rfl)) ?_)
  refine WL.nil ?_
  (refine hK _ _ ?_; clear hK)
  (refine WC.seq ?_; intro K hK)
  (refine WC.seq ?_; intro K hK)
  refine WC.region rfl ?_
  refine WL.want rfl (WL1.give rfl (g_move rfl (.mk (v := .slice _ _ _) rfl rfl)) ?_)
  refine WL.want rfl (WL1.give rfl (g_len rfl (.mk rfl rfl) rfl) ?_)
  refine WL.want rfl (WL1.give rfl (g_move rfl (.mk (v := .int _ _) rfl rfl)) ?_)
  refine WL.nil ?_
  (refine hK _ _ ?_; clear hK)
  refine WC.block ?_
  refine WC.loop (524080) (fun k : Nat => [(8, iv k)]) (fun _ => []) (fun k => k ≤ rs.length ∧ ∀ j, j < k → nz (nth (nth rs j).l c) = false) (fun k => rs.length - k) 0 ⟨rfl, trivial⟩ (List.nil_sublist _) ⟨by omega, fun j hj => absurd hj (by omega)⟩ ?_
  rintro k U ⟨hk, hq⟩
  by_cases hlt : k < rs.length
  · have hcl := fun w' hb => colF_e (nth rs k).v (nth rs k).l b c w' ((hv.row hlt).below (w' := w') hb) (kept_cell hb hc) (hl k hlt)
    cases hz : nz (nth (nth rs k).l c) with
    | false =>
      rw [hz] at hcl
      (refine WC.seq ?_; intro K hK)
      refine WC.region rfl ?_
      refine WL.want rfl (WL1.give rfl (g_lt rfl (.mk rfl rfl) (.mk rfl rfl) (decide_eq_true (by omega))) ?_)
      refine WL.nil ?_
      (refine hK _ _ ?_; clear hK)
      (refine WC.seq ?_; intro K hK)
      refine WC.cond_true (.mk rfl rfl) ?_
      refine WC.skip ?_
      (refine hK _ _ ?_; clear hK)
      (refine WC.seq ?_; intro K hK)
      refine WC.block ?_
      (refine WC.seq ?_; intro K hK)
      refine WC.region rfl ?_
      refine WL.want rfl (WL1.give rfl (g_move rfl (.mk (v := .int _ _) rfl rfl)) ?_)
      refine WL.want rfl (WL1.give rfl (g_assign rfl (.mk (v := .int _ _) rfl rfl)) ?_)
      refine WL.nil ?_
      (refine hK _ _ ?_; clear hK)
      (refine WC.seq ?_; intro K hK)
      refine WC.region rfl ?_
      refine WL.want rfl (WL1.give rfl (g_move rfl (.mk (v := .func _ _ _) rfl rfl)) ?_)
      refine WL.want rfl (WL1.give rfl (g_move rfl (.mk (v := .slice _ _ _) rfl rfl)) ?_)
      refine WL.want rfl (WL1.give rfl (g_move rfl (.mk (v := .int _ _) rfl rfl)) ?_)
      refine WL.want rfl (WL1.give rfl (g_indexAddr (sz := 1) rfl (.mk rfl rfl) (.mk rfl rfl) rfl rfl rfl (by omega) (fun _ _ => sl_some hs (by omega))) ?_)
      refine WL.want rfl (WL1.give rfl (g_load rfl (.mk rfl rfl) rfl (rd_sl hs (get1 (by omega)))) ?_)
      refine WL.want rfl (WL1.callVP rfl rfl (.mk rfl rfl) (by first | assumption | rfl) (.cons (.mk (v := .slice _ _ _) rfl rfl) .nil) (fun w hw => hcl w hw.1) ?_)
      refine WL.nil ?_
      (refine hK _ _ ?_; clear hK)
      refine WC.cond_false (.mk rfl rfl) ?_
      refine WC.skip ?_
      (refine hK _ _ ?_; clear hK)
      refine WC.region rfl ?_
      refine WL.want rfl (WL1.give rfl (g_add rfl (.mk rfl rfl) (.mk rfl rfl) (IntWalk.i64_in _ (by omega))) ?_)
      refine WL.want rfl (WL1.give rfl (g_move rfl (.mk (v := .int _ _) rfl rfl)) ?_)
      refine WL.nil ?_
      refine ⟨k + 1, (by repeat (first | with_reducible exact Out.refl _ _ | refine Out.set rfl ?_ | refine Out.put rfl ?_ | refine Out.sets rfl ?_ | refine Out.hav rfl ?_ | exact Out.refl _ _)), ⟨rfl, trivial⟩, .refl _, ⟨by omega, fun j hj => ?_⟩, by omega⟩
      by_cases e : j = k
      · rw [e]; exact hz
      · exact hq j (by omega)
    | true =>
      rw [hz] at hcl
      (refine WC.seq ?_; intro K hK)
      refine WC.region rfl ?_
      refine WL.want rfl (WL1.give rfl (g_lt rfl (.mk rfl rfl) (.mk rfl rfl) (decide_eq_true (by omega))) ?_)
      refine WL.nil ?_
      (refine hK _ _ ?_; clear hK)
      (refine WC.seq ?_; intro K hK)
      refine WC.cond_true (.mk rfl rfl) ?_
      refine WC.skip ?_
      (refine hK _ _ ?_; clear hK)
      (refine WC.seq ?_; intro K hK)
      refine WC.block ?_
      (refine WC.seq ?_; intro K hK)
      refine WC.region rfl ?_
      refine WL.want rfl (WL1.give rfl (g_move rfl (.mk (v := .int _ _) rfl rfl)) ?_)
      refine WL.want rfl (WL1.give rfl (g_assign rfl (.mk (v := .int _ _) rfl rfl)) ?_)
      refine WL.nil ?_
      (refine hK _ _ ?_; clear hK)
      (refine WC.seq ?_; intro K hK)
      refine WC.region rfl ?_
      refine WL.want rfl (WL1.give rfl (g_move rfl (.mk (v := .func _ _ _) rfl rfl)) ?_)
      refine WL.want rfl (WL1.give rfl (g_move rfl (.mk (v := .slice _ _ _) rfl rfl)) ?_)
      refine WL.want rfl (WL1.give rfl (g_move rfl (.mk (v := .int _ _) rfl rfl)) ?_)
      refine WL.want rfl (WL1.give rfl (g_indexAddr (sz := 1) rfl (.mk rfl rfl) (.mk rfl rfl) rfl rfl rfl (by omega) (fun _ _ => sl_some hs (by omega))) ?_)
      refine WL.want rfl (WL1.give rfl (g_load rfl (.mk rfl rfl) rfl (rd_sl hs (get1 (by omega)))) ?_)
      refine WL.want rfl (WL1.callVP rfl rfl (.mk rfl rfl) (by first | assumption | rfl) (.cons (.mk (v := .slice _ _ _) rfl rfl) .nil) (fun w hw => hcl w hw.1) ?_)
      refine WL.nil ?_
      (refine hK _ _ ?_; clear hK)
      refine WC.cond_true (.mk rfl rfl) ?_
      (refine WC.seq ?_; intro K hK)
      refine WC.region rfl ?_
      refine WL.want rfl (WL1.give rfl (g_move rfl (.mk (v := .int _ _) rfl rfl)) ?_)
      refine WL.want rfl (WL1.give rfl (g_assign rfl (.mk (v := .int _ _) rfl rfl)) ?_)
      refine WL.nil ?_
      (refine hK _ _ ?_; clear hK)
      refine WC.ret ?_
      exact fun w' hw' => ⟨by rw [fnd_eq hlt hz hq]; rfl, hw'.1⟩
  · obtain rfl : k = rs.length := by omega
    (refine WC.seq ?_; intro K hK)
    refine WC.region rfl ?_
    refine WL.want rfl (WL1.give rfl (g_lt rfl (.mk rfl rfl) (.mk rfl rfl) (decide_eq_false (by omega))) ?_)
    refine WL.nil ?_
    (refine hK _ _ ?_; clear hK)
    (refine WC.seq ?_; intro K hK)
    refine WC.cond_false (.mk rfl rfl) ?_
    refine WC.exit ?_
    (clear hK; refine hK _ _ ?_; clear hK)
    (refine WC.seq ?_; intro K hK)
    refine WC.region rfl ?_
    refine WL.want rfl (WL1.give rfl (g_assign rfl (.mk (v := .int _ _) rfl rfl)) ?_)
    refine WL.nil ?_
    (refine hK _ _ ?_; clear hK)
    refine WC.ret ?_
    exact fun w' hw' => ⟨by rw [fnd_all hq]; rfl, hw'.1⟩
end Go.Proofs.Ytlkemgefioiffaa
