/- WearChosen answers true, whatever the list of bands: the band that Least returns is free, and no free band has less wear, or the same and a lower number. No condition. -/
import Derived.Test.YtgpjaocpdfcamaaWear4
import Derived.Test.YtgpjaocpdfcamaaWearAwake
import Derived.Test.YtgpjaocpdfcamaaOpen
namespace Go.Proofs.Ytgpjaocpdfcamaa.LWearChosen
open Go.RowKit Go.WideShapes Go.ChangeShapes Go.ChangeAt

set_option maxRecDepth 20000 in
set_option maxHeartbeats 1000000 in
theorem walk (w : World) (v : Value) (l : List Band) (hv : Bands w v l) :
    Calls Try.prog 7 #[v] w fun en w' => en = .returned (.bool true) ∧ Below w.heap.size w w' := by
  obtain ⟨A, c, rfl, hc, hm, hs⟩ := hv.1.open_
  by_cases hn : l.length ≤ 100
  · rcases best_spec l l.length (Nat.le_refl _) with ⟨hneg, hall⟩ | ⟨j, hj, hjk, hu, hall⟩
    · have HV : leastV l = .tuple #[iv 0, iv 9] := by rw [leastV, if_pos hneg]
      have HL : ∀ w', H w [] w' → Calls Try.prog 9 #[.slice A l.length c] w' fun e w'' => e = .returned (.tuple #[iv 0, iv 9]) ∧ Below w'.heap.size w' w'' := fun w' hw => by
        rw [← HV]; exact least_any _ l w' (hv.below hw.1) (by omega)
      refine calls_wc (args := [.slice A l.length c]) [2] [] Try.func7 rfl Try.ntmps7 rfl rfl rfl rfl (H.refl w) ?_
      (refine WC.seq ?_; intro K hK)
      refine WC.region ?_
      refine WL.want rfl (WL1.give rfl (g_assign rfl (.mk (v := .bool _) rfl rfl)) ?_)
      refine WL.nil ?_
      (refine hK _ _ ?_; clear hK)
      (refine WC.seq ?_; intro K hK)
      (refine WC.seq ?_; intro K hK)
      refine WC.region ?_
      refine WL.want rfl (WL1.callP rfl rfl rfl .nil (fun w hw => awake_any w) ?_)
      refine WL.want rfl (WL1.give rfl (g_notT rfl (.mk rfl rfl)) ?_)
      refine WL.want rfl (WL1.give rfl (g_move rfl (.mk (v := .bool _) rfl rfl)) ?_)
      refine WL.wantG rfl rfl rfl rfl (WL1.give rfl (g_move rfl (.mk (v := .slice _ _ _) rfl rfl)) ?_)
      refine WL.wantG rfl rfl rfl rfl (WL1.give rfl (g_len rfl (.mk rfl rfl) rfl) ?_)
      refine WL.wantG rfl rfl rfl rfl (WL1.give rfl (g_gt rfl (.mk rfl rfl) (.mk rfl rfl) (decide_eq_false (by omega))) ?_)
      refine WL.want rfl (WL1.give rfl (g_pickF rfl (.mk rfl rfl) (.mk (v := .bool _) rfl rfl)) ?_)
      refine WL.nil ?_
      (refine hK _ _ ?_; clear hK)
      refine WC.cond_false (.mk rfl rfl) ?_
      refine WC.skip ?_
      (refine hK _ _ ?_; clear hK)
      (refine WC.seq ?_; intro K hK)
      refine WC.region ?_
      refine WL.want rfl (WL1.give rfl (g_move rfl (.mk (v := .slice _ _ _) rfl rfl)) ?_)
      refine WL.want rfl (WL1.callP rfl rfl rfl (.cons (.mk (v := .slice _ _ _) rfl rfl) .nil) (fun w hw => HL w hw) ?_)
      refine WL.want rfl (WL1.give rfl (g_move rfl (.mk (v := .tuple _) rfl rfl)) ?_)
      refine WL.want rfl (WL1.give rfl (g_extract rfl (.mk rfl rfl) rfl) ?_)
      refine WL.want rfl (WL1.give rfl (g_extract rfl (.mk rfl rfl) rfl) ?_)
      refine WL.want rfl (WL1.give rfl (g_assign rfl (.mk (v := .int _ _) rfl rfl)) ?_)
      refine WL.want rfl (WL1.give rfl (g_assign rfl (.mk (v := .int _ _) rfl rfl)) ?_)
      refine WL.nil ?_
      (refine hK _ _ ?_; clear hK)
      (refine WC.seq ?_; intro K hK)
      (refine WC.seq ?_; intro K hK)
      refine WC.region ?_
      refine WL.want rfl (WL1.give rfl (g_move rfl (.mk (v := .int _ _) rfl rfl)) ?_)
      refine WL.want rfl (WL1.give rfl (g_eq rfl (.mk rfl rfl) (.mk rfl rfl) (decide_eq_false (by omega))) ?_)
      refine WL.want rfl (WL1.give rfl (g_move rfl (.mk (v := .bool _) rfl rfl)) ?_)
      refine WL.skipG rfl rfl rfl rfl rfl rfl ?_
      refine WL.skipG rfl rfl rfl rfl rfl rfl ?_
      refine WL.skipG rfl rfl rfl rfl rfl rfl ?_
      refine WL.skipU rfl rfl rfl rfl rfl ?_
      refine WL.skipU rfl rfl rfl rfl rfl ?_
      refine WL.skipU rfl rfl rfl rfl rfl ?_
      refine WL.skipU rfl rfl rfl rfl rfl ?_
      refine WL.skipG rfl rfl rfl rfl rfl rfl ?_
      refine WL.want rfl (WL1.give rfl (g_pickF rfl (.mk rfl rfl) (.mk (v := .bool _) rfl rfl)) ?_)
      refine WL.nil ?_
      (refine hK _ _ ?_; clear hK)
      refine WC.cond_false (.mk rfl rfl) ?_
      refine WC.skip ?_
      (refine hK _ _ ?_; clear hK)
      (refine WC.seq ?_; intro K hK)
      (refine WC.seq ?_; intro K hK)
      refine WC.region ?_
      refine WL.want rfl (WL1.give rfl (g_assign rfl (.mk (v := .int _ _) rfl rfl)) ?_)
      refine WL.nil ?_
      (refine hK _ _ ?_; clear hK)
      refine WC.block ?_
      refine WC.loop (302231454903655146192932) (fun k : Nat => [(5, iv k)]) (fun _ => []) (fun k => k ≤ l.length) (fun k => l.length - k) 0 ⟨rfl, trivial⟩ (.refl _) (by omega) ?_
      intro k U hk
      by_cases hlt : k < l.length
      · have h1 := hall k hlt
        (refine WC.seq ?_; intro K hK)
        (refine WC.seq ?_; intro K hK)
        refine WC.region ?_
        refine WL.want rfl (WL1.give rfl (g_move rfl (.mk (v := .int _ _) rfl rfl)) ?_)
        refine WL.want rfl (WL1.give rfl (g_move rfl (.mk (v := .slice _ _ _) rfl rfl)) ?_)
        refine WL.want rfl (WL1.give rfl (g_len rfl (.mk rfl rfl) rfl) ?_)
        refine WL.want rfl (WL1.give rfl (g_lt rfl (.mk rfl rfl) (.mk rfl rfl) (decide_eq_true (by omega))) ?_)
        refine WL.nil ?_
        (refine hK _ _ ?_; clear hK)
        refine WC.cond_true (.mk rfl rfl) ?_
        refine WC.skip ?_
        (refine hK _ _ ?_; clear hK)
        (refine WC.seq ?_; intro K hK)
        refine WC.block ?_
        (refine WC.seq ?_; intro K hK)
        refine WC.quiet (by kernel_rfl) (by kernel_rfl) ?_
        refine WQ.want rfl (WQ1.give rfl (g_move rfl (.mk (v := .slice _ _ _) rfl rfl)) ?_)
        refine WQ.want rfl (WQ1.give rfl (g_move rfl (.mk (v := .int _ _) rfl rfl)) ?_)
        refine WQ.want rfl (WQ1.give rfl (g_indexAddr (sz := 4) rfl (.mk rfl rfl) (.mk rfl rfl) rfl rfl rfl (by omega) (fun _ _ => sl_some hs (by omega))) ?_)
        refine WQ.want rfl (WQ1.give rfl (g_fieldAddr (off := 0) rfl (.mk rfl rfl) rfl (fun _ _ => sl_some hs (by omega))) ?_)
        refine WQ.want rfl (WQ1.give rfl (g_load rfl (.mk rfl rfl) rfl (rd_sl hs ((flat_get band4 (by omega) (by decide)).trans rfl))) ?_)
        refine WQ.want rfl (WQ1.give rfl (g_eq rfl (.mk rfl rfl) (.mk rfl rfl) (decide_eq_false (by omega))) ?_)
        refine WQ.want rfl (WQ1.give rfl (g_move rfl (.mk (v := .bool _) rfl rfl)) ?_)
        refine WQ.skipG rfl rfl rfl rfl rfl rfl ?_
        refine WQ.skipG rfl rfl rfl rfl rfl rfl ?_
        refine WQ.skipG rfl rfl rfl rfl rfl rfl ?_
        refine WQ.skipU rfl rfl rfl rfl rfl ?_
        refine WQ.skipU rfl rfl rfl rfl rfl ?_
        refine WQ.skipU rfl rfl rfl rfl rfl ?_
        refine WQ.skipU rfl rfl rfl rfl rfl ?_
        refine WQ.skipU rfl rfl rfl rfl rfl ?_
        refine WQ.skipU rfl rfl rfl rfl rfl ?_
        refine WQ.skipU rfl rfl rfl rfl rfl ?_
        refine WQ.skipU rfl rfl rfl rfl rfl ?_
        refine WQ.skipU rfl rfl rfl rfl rfl ?_
        refine WQ.skipU rfl rfl rfl rfl rfl ?_
        refine WQ.skipU rfl rfl rfl rfl rfl ?_
        refine WQ.skipG rfl rfl rfl rfl rfl rfl ?_
        refine WQ.skipG rfl rfl rfl rfl rfl rfl ?_
        refine WQ.skipU rfl rfl rfl rfl rfl ?_
        refine WQ.skipU rfl rfl rfl rfl rfl ?_
        refine WQ.skipU rfl rfl rfl rfl rfl ?_
        refine WQ.skipU rfl rfl rfl rfl rfl ?_
        refine WQ.skipU rfl rfl rfl rfl rfl ?_
        refine WQ.skipU rfl rfl rfl rfl rfl ?_
        refine WQ.skipU rfl rfl rfl rfl rfl ?_
        refine WQ.skipU rfl rfl rfl rfl rfl ?_
        refine WQ.skipU rfl rfl rfl rfl rfl ?_
        refine WQ.skipU rfl rfl rfl rfl rfl ?_
        refine WQ.skipU rfl rfl rfl rfl rfl ?_
        refine WQ.skipU rfl rfl rfl rfl rfl ?_
        refine WQ.skipU rfl rfl rfl rfl rfl ?_
        refine WQ.skipU rfl rfl rfl rfl rfl ?_
        refine WQ.skipU rfl rfl rfl rfl rfl ?_
        refine WQ.skipU rfl rfl rfl rfl rfl ?_
        refine WQ.skipG rfl rfl rfl rfl rfl rfl ?_
        refine WQ.want rfl (WQ1.give rfl (g_pickF rfl (.mk rfl rfl) (.mk (v := .bool _) rfl rfl)) ?_)
        refine WQ.nil ?_
        (refine hK _ _ ?_; clear hK)
        refine WC.cond_false (.mk rfl rfl) ?_
        refine WC.skip ?_
        (refine hK _ _ ?_; clear hK)
        refine WC.region ?_
        refine WL.want rfl (WL1.give rfl (g_move rfl (.mk (v := .int _ _) rfl rfl)) ?_)
        refine WL.want rfl (WL1.give rfl (g_add rfl (.mk rfl rfl) (.mk rfl rfl) (IntWalk.i64_in _ (by omega))) ?_)
        refine WL.want rfl (WL1.give rfl (g_assign rfl (.mk (v := .int _ _) rfl rfl)) ?_)
        refine WL.nil ?_
        exact ⟨k + 1, (by repeat (first | with_reducible exact Out.refl _ _ | refine Out.set rfl ?_ | refine Out.put rfl ?_ | refine Out.sets rfl ?_ | refine Out.hav rfl ?_ | exact Out.refl _ _)), ⟨rfl, trivial⟩, .refl _, by omega, by omega⟩
      · (refine WC.seq ?_; intro K hK)
        (refine WC.seq ?_; intro K hK)
        refine WC.region ?_
        refine WL.want rfl (WL1.give rfl (g_move rfl (.mk (v := .int _ _) rfl rfl)) ?_)
        refine WL.want rfl (WL1.give rfl (g_move rfl (.mk (v := .slice _ _ _) rfl rfl)) ?_)
        refine WL.want rfl (WL1.give rfl (g_len rfl (.mk rfl rfl) rfl) ?_)
        refine WL.want rfl (WL1.give rfl (g_lt rfl (.mk rfl rfl) (.mk rfl rfl) (decide_eq_false (by omega))) ?_)
        refine WL.nil ?_
        (refine hK _ _ ?_; clear hK)
        refine WC.cond_false (.mk rfl rfl) ?_
        refine WC.exit ?_
        (clear hK; refine hK _ _ ?_; clear hK)
        (refine WC.seq ?_; intro K hK)
        refine WC.region ?_
        refine WL.want rfl (WL1.give rfl (g_move rfl (.mk (v := .int _ _) rfl rfl)) ?_)
        refine WL.want rfl (WL1.give rfl (g_eq rfl (.mk rfl rfl) (.mk rfl rfl) (decide_eq_true (by omega))) ?_)
        refine WL.want rfl (WL1.give rfl (g_move rfl (.mk (v := .bool _) rfl rfl)) ?_)
        refine WL.skipG rfl rfl rfl rfl rfl rfl ?_
        refine WL.skipG rfl rfl rfl rfl rfl rfl ?_
        refine WL.skipG rfl rfl rfl rfl rfl rfl ?_
        refine WL.skipU rfl rfl rfl rfl rfl ?_
        refine WL.skipU rfl rfl rfl rfl rfl ?_
        refine WL.skipU rfl rfl rfl rfl rfl ?_
        refine WL.skipU rfl rfl rfl rfl rfl ?_
        refine WL.skipU rfl rfl rfl rfl rfl ?_
        refine WL.skipU rfl rfl rfl rfl rfl ?_
        refine WL.skipG rfl rfl rfl rfl rfl rfl ?_
        refine WL.want rfl (WL1.give rfl (g_pickT rfl (.mk rfl rfl) (.mk (v := .bool _) rfl rfl)) ?_)
        refine WL.want rfl (WL1.give rfl (g_assign rfl (.mk (v := .bool _) rfl rfl)) ?_)
        refine WL.nil ?_
        (refine hK _ _ ?_; clear hK)
        refine WC.ret ?_
        exact fun w' hw' => ⟨rfl, hw'.1⟩
    · have HV : leastV l = .tuple #[iv j, iv 0] := by rw [leastV, if_neg (by omega), hj]
      have HL : ∀ w', H w [] w' → Calls Try.prog 9 #[.slice A l.length c] w' fun e w'' => e = .returned (.tuple #[iv j, iv 0]) ∧ Below w'.heap.size w' w'' := fun w' hw => by
        rw [← HV]; exact least_any _ l w' (hv.below hw.1) (by omega)
      refine calls_wc (args := [.slice A l.length c]) [2] [] Try.func7 rfl Try.ntmps7 rfl rfl rfl rfl (H.refl w) ?_
      (refine WC.seq ?_; intro K hK)
      refine WC.region ?_
      refine WL.want rfl (WL1.give rfl (g_assign rfl (.mk (v := .bool _) rfl rfl)) ?_)
      refine WL.nil ?_
      (refine hK _ _ ?_; clear hK)
      (refine WC.seq ?_; intro K hK)
      (refine WC.seq ?_; intro K hK)
      refine WC.region ?_
      refine WL.want rfl (WL1.callP rfl rfl rfl .nil (fun w hw => awake_any w) ?_)
      refine WL.want rfl (WL1.give rfl (g_notT rfl (.mk rfl rfl)) ?_)
      refine WL.want rfl (WL1.give rfl (g_move rfl (.mk (v := .bool _) rfl rfl)) ?_)
      refine WL.wantG rfl rfl rfl rfl (WL1.give rfl (g_move rfl (.mk (v := .slice _ _ _) rfl rfl)) ?_)
      refine WL.wantG rfl rfl rfl rfl (WL1.give rfl (g_len rfl (.mk rfl rfl) rfl) ?_)
      refine WL.wantG rfl rfl rfl rfl (WL1.give rfl (g_gt rfl (.mk rfl rfl) (.mk rfl rfl) (decide_eq_false (by omega))) ?_)
      refine WL.want rfl (WL1.give rfl (g_pickF rfl (.mk rfl rfl) (.mk (v := .bool _) rfl rfl)) ?_)
      refine WL.nil ?_
      (refine hK _ _ ?_; clear hK)
      refine WC.cond_false (.mk rfl rfl) ?_
      refine WC.skip ?_
      (refine hK _ _ ?_; clear hK)
      (refine WC.seq ?_; intro K hK)
      refine WC.region ?_
      refine WL.want rfl (WL1.give rfl (g_move rfl (.mk (v := .slice _ _ _) rfl rfl)) ?_)
      refine WL.want rfl (WL1.callP rfl rfl rfl (.cons (.mk (v := .slice _ _ _) rfl rfl) .nil) (fun w hw => HL w hw) ?_)
      refine WL.want rfl (WL1.give rfl (g_move rfl (.mk (v := .tuple _) rfl rfl)) ?_)
      refine WL.want rfl (WL1.give rfl (g_extract rfl (.mk rfl rfl) rfl) ?_)
      refine WL.want rfl (WL1.give rfl (g_extract rfl (.mk rfl rfl) rfl) ?_)
      refine WL.want rfl (WL1.give rfl (g_assign rfl (.mk (v := .int _ _) rfl rfl)) ?_)
      refine WL.want rfl (WL1.give rfl (g_assign rfl (.mk (v := .int _ _) rfl rfl)) ?_)
      refine WL.nil ?_
      (refine hK _ _ ?_; clear hK)
      (refine WC.seq ?_; intro K hK)
      (refine WC.seq ?_; intro K hK)
      refine WC.region ?_
      refine WL.want rfl (WL1.give rfl (g_move rfl (.mk (v := .int _ _) rfl rfl)) ?_)
      refine WL.want rfl (WL1.give rfl (g_eq rfl (.mk rfl rfl) (.mk rfl rfl) (decide_eq_true (by omega))) ?_)
      refine WL.want rfl (WL1.give rfl (g_move rfl (.mk (v := .bool _) rfl rfl)) ?_)
      refine WL.wantG rfl rfl rfl rfl (WL1.give rfl (g_move rfl (.mk (v := .int _ _) rfl rfl)) ?_)
      refine WL.wantG rfl rfl rfl rfl (WL1.give rfl (g_lt rfl (.mk rfl rfl) (.mk rfl rfl) (decide_eq_false (by omega))) ?_)
      refine WL.wantG rfl rfl rfl rfl (WL1.give rfl (g_move rfl (.mk (v := .bool _) rfl rfl)) ?_)
      refine WL.wantG rfl rfl rfl rfl (WL1.give rfl (g_move rfl (.mk (v := .int _ _) rfl rfl)) ?_)
      refine WL.wantG rfl rfl rfl rfl (WL1.give rfl (g_move rfl (.mk (v := .slice _ _ _) rfl rfl)) ?_)
      refine WL.wantG rfl rfl rfl rfl (WL1.give rfl (g_len rfl (.mk rfl rfl) rfl) ?_)
      refine WL.wantG rfl rfl rfl rfl (WL1.give rfl (g_ge rfl (.mk rfl rfl) (.mk rfl rfl) (decide_eq_false (by omega))) ?_)
      refine WL.wantG rfl rfl rfl rfl (WL1.give rfl (g_pickF rfl (.mk rfl rfl) (.mk (v := .bool _) rfl rfl)) ?_)
      refine WL.want rfl (WL1.give rfl (g_pickT rfl (.mk rfl rfl) (.mk (v := .bool _) rfl rfl)) ?_)
      refine WL.nil ?_
      (refine hK _ _ ?_; clear hK)
      refine WC.cond_false (.mk rfl rfl) ?_
      refine WC.skip ?_
      (refine hK _ _ ?_; clear hK)
      (refine WC.seq ?_; intro K hK)
      (refine WC.seq ?_; intro K hK)
      refine WC.region ?_
      refine WL.want rfl (WL1.give rfl (g_assign rfl (.mk (v := .int _ _) rfl rfl)) ?_)
      refine WL.nil ?_
      (refine hK _ _ ?_; clear hK)
      refine WC.block ?_
      refine WC.loop (302231454903655146192932) (fun k : Nat => [(5, iv k)]) (fun _ => []) (fun k => k ≤ l.length) (fun k => l.length - k) 0 ⟨rfl, trivial⟩ (.refl _) (by omega) ?_
      intro k U hk
      by_cases hlt : k < l.length
      · have h1 := hall k hlt
        by_cases hk0 : (nth l k).used = 0
        · have h2 := h1 hk0
          clear h1
          by_cases h3 : (nth l k).wear = (nth l j).wear
          · (refine WC.seq ?_; intro K hK)
            (refine WC.seq ?_; intro K hK)
            refine WC.region ?_
            refine WL.want rfl (WL1.give rfl (g_move rfl (.mk (v := .int _ _) rfl rfl)) ?_)
            refine WL.want rfl (WL1.give rfl (g_move rfl (.mk (v := .slice _ _ _) rfl rfl)) ?_)
            refine WL.want rfl (WL1.give rfl (g_len rfl (.mk rfl rfl) rfl) ?_)
            refine WL.want rfl (WL1.give rfl (g_lt rfl (.mk rfl rfl) (.mk rfl rfl) (decide_eq_true (by omega))) ?_)
            refine WL.nil ?_
            (refine hK _ _ ?_; clear hK)
            refine WC.cond_true (.mk rfl rfl) ?_
            refine WC.skip ?_
            (refine hK _ _ ?_; clear hK)
            (refine WC.seq ?_; intro K hK)
            refine WC.block ?_
            (refine WC.seq ?_; intro K hK)
            refine WC.quiet (by kernel_rfl) (by kernel_rfl) ?_
            refine WQ.want rfl (WQ1.give rfl (g_move rfl (.mk (v := .slice _ _ _) rfl rfl)) ?_)
            refine WQ.want rfl (WQ1.give rfl (g_move rfl (.mk (v := .int _ _) rfl rfl)) ?_)
            refine WQ.want rfl (WQ1.give rfl (g_indexAddr (sz := 4) rfl (.mk rfl rfl) (.mk rfl rfl) rfl rfl rfl (by omega) (fun _ _ => sl_some hs (by omega))) ?_)
            refine WQ.want rfl (WQ1.give rfl (g_fieldAddr (off := 0) rfl (.mk rfl rfl) rfl (fun _ _ => sl_some hs (by omega))) ?_)
            refine WQ.want rfl (WQ1.give rfl (g_load rfl (.mk rfl rfl) rfl (rd_sl hs ((flat_get band4 (by omega) (by decide)).trans rfl))) ?_)
            refine WQ.want rfl (WQ1.give rfl (g_eq rfl (.mk rfl rfl) (.mk rfl rfl) (decide_eq_true (by omega))) ?_)
            refine WQ.want rfl (WQ1.give rfl (g_move rfl (.mk (v := .bool _) rfl rfl)) ?_)
            refine WQ.wantG rfl rfl rfl rfl (WQ1.give rfl (g_move rfl (.mk (v := .int _ _) rfl rfl)) ?_)
            refine WQ.wantG rfl rfl rfl rfl (WQ1.give rfl (g_ne rfl (.mk rfl rfl) (.mk rfl rfl) (decide_eq_false (by omega))) ?_)
            refine WQ.wantG rfl rfl rfl rfl (WQ1.give rfl (g_move rfl (.mk (v := .bool _) rfl rfl)) ?_)
            refine WQ.wantG rfl rfl rfl rfl (WQ1.give rfl (g_move rfl (.mk (v := .slice _ _ _) rfl rfl)) ?_)
            refine WQ.wantG rfl rfl rfl rfl (WQ1.give rfl (g_move rfl (.mk (v := .int _ _) rfl rfl)) ?_)
            refine WQ.wantG rfl rfl rfl rfl (WQ1.give rfl (g_indexAddr (sz := 4) rfl (.mk rfl rfl) (.mk rfl rfl) rfl rfl rfl (by omega) (fun _ _ => sl_some hs (by omega))) ?_)
            refine WQ.wantG rfl rfl rfl rfl (WQ1.give rfl (g_fieldAddr (off := 3) rfl (.mk rfl rfl) rfl (fun _ _ => sl_some hs (by omega))) ?_)
            refine WQ.wantG rfl rfl rfl rfl (WQ1.give rfl (g_load rfl (.mk rfl rfl) rfl (rd_sl hs ((flat_get band4 (by omega) (by decide)).trans rfl))) ?_)
            refine WQ.wantG rfl rfl rfl rfl (WQ1.give rfl (g_move rfl (.mk (v := .slice _ _ _) rfl rfl)) ?_)
            refine WQ.wantG rfl rfl rfl rfl (WQ1.give rfl (g_move rfl (.mk (v := .int _ _) rfl rfl)) ?_)
            refine WQ.wantG rfl rfl rfl rfl (WQ1.give rfl (g_indexAddr (sz := 4) rfl (.mk rfl rfl) (.mk rfl rfl) rfl rfl rfl (by omega) (fun _ _ => sl_some hs (by omega))) ?_)
            refine WQ.wantG rfl rfl rfl rfl (WQ1.give rfl (g_fieldAddr (off := 3) rfl (.mk rfl rfl) rfl (fun _ _ => sl_some hs (by omega))) ?_)
            refine WQ.wantG rfl rfl rfl rfl (WQ1.give rfl (g_load rfl (.mk rfl rfl) rfl (rd_sl hs ((flat_get band4 (by omega) (by decide)).trans rfl))) ?_)
            refine WQ.wantG rfl rfl rfl rfl (WQ1.give rfl (g_lt rfl (.mk rfl rfl) (.mk rfl rfl) (decide_eq_false (by omega))) ?_)
            refine WQ.wantG rfl rfl rfl rfl (WQ1.give rfl (g_pickF rfl (.mk rfl rfl) (.mk (v := .bool _) rfl rfl)) ?_)
            refine WQ.wantG rfl rfl rfl rfl (WQ1.give rfl (g_move rfl (.mk (v := .bool _) rfl rfl)) ?_)
            refine WQ.wantG rfl rfl rfl rfl (WQ1.give rfl (g_move rfl (.mk (v := .slice _ _ _) rfl rfl)) ?_)
            refine WQ.wantG rfl rfl rfl rfl (WQ1.give rfl (g_move rfl (.mk (v := .int _ _) rfl rfl)) ?_)
            refine WQ.wantG rfl rfl rfl rfl (WQ1.give rfl (g_indexAddr (sz := 4) rfl (.mk rfl rfl) (.mk rfl rfl) rfl rfl rfl (by omega) (fun _ _ => sl_some hs (by omega))) ?_)
            refine WQ.wantG rfl rfl rfl rfl (WQ1.give rfl (g_fieldAddr (off := 3) rfl (.mk rfl rfl) rfl (fun _ _ => sl_some hs (by omega))) ?_)
            refine WQ.wantG rfl rfl rfl rfl (WQ1.give rfl (g_load rfl (.mk rfl rfl) rfl (rd_sl hs ((flat_get band4 (by omega) (by decide)).trans rfl))) ?_)
            refine WQ.wantG rfl rfl rfl rfl (WQ1.give rfl (g_move rfl (.mk (v := .slice _ _ _) rfl rfl)) ?_)
            refine WQ.wantG rfl rfl rfl rfl (WQ1.give rfl (g_move rfl (.mk (v := .int _ _) rfl rfl)) ?_)
            refine WQ.wantG rfl rfl rfl rfl (WQ1.give rfl (g_indexAddr (sz := 4) rfl (.mk rfl rfl) (.mk rfl rfl) rfl rfl rfl (by omega) (fun _ _ => sl_some hs (by omega))) ?_)
            refine WQ.wantG rfl rfl rfl rfl (WQ1.give rfl (g_fieldAddr (off := 3) rfl (.mk rfl rfl) rfl (fun _ _ => sl_some hs (by omega))) ?_)
            refine WQ.wantG rfl rfl rfl rfl (WQ1.give rfl (g_load rfl (.mk rfl rfl) rfl (rd_sl hs ((flat_get band4 (by omega) (by decide)).trans rfl))) ?_)
            refine WQ.wantG rfl rfl rfl rfl (WQ1.give rfl (g_eq rfl (.mk rfl rfl) (.mk rfl rfl) (decide_eq_true (by omega))) ?_)
            refine WQ.wantG rfl rfl rfl rfl (WQ1.give rfl (g_move rfl (.mk (v := .bool _) rfl rfl)) ?_)
            refine WQ.wantG rfl rfl rfl rfl (WQ1.give rfl (g_move rfl (.mk (v := .int _ _) rfl rfl)) ?_)
            refine WQ.wantG rfl rfl rfl rfl (WQ1.give rfl (g_move rfl (.mk (v := .int _ _) rfl rfl)) ?_)
            refine WQ.wantG rfl rfl rfl rfl (WQ1.give rfl (g_lt rfl (.mk rfl rfl) (.mk rfl rfl) (decide_eq_false (by omega))) ?_)
            refine WQ.wantG rfl rfl rfl rfl (WQ1.give rfl (g_pickT rfl (.mk rfl rfl) (.mk (v := .bool _) rfl rfl)) ?_)
            refine WQ.wantG rfl rfl rfl rfl (WQ1.give rfl (g_pickF rfl (.mk rfl rfl) (.mk (v := .bool _) rfl rfl)) ?_)
            refine WQ.want rfl (WQ1.give rfl (g_pickT rfl (.mk rfl rfl) (.mk (v := .bool _) rfl rfl)) ?_)
            refine WQ.nil ?_
            (refine hK _ _ ?_; clear hK)
            refine WC.cond_false (.mk rfl rfl) ?_
            refine WC.skip ?_
            (refine hK _ _ ?_; clear hK)
            refine WC.region ?_
            refine WL.want rfl (WL1.give rfl (g_move rfl (.mk (v := .int _ _) rfl rfl)) ?_)
            refine WL.want rfl (WL1.give rfl (g_add rfl (.mk rfl rfl) (.mk rfl rfl) (IntWalk.i64_in _ (by omega))) ?_)
            refine WL.want rfl (WL1.give rfl (g_assign rfl (.mk (v := .int _ _) rfl rfl)) ?_)
            refine WL.nil ?_
            exact ⟨k + 1, (by repeat (first | with_reducible exact Out.refl _ _ | refine Out.set rfl ?_ | refine Out.put rfl ?_ | refine Out.sets rfl ?_ | refine Out.hav rfl ?_ | exact Out.refl _ _)), ⟨rfl, trivial⟩, .refl _, by omega, by omega⟩
          · (refine WC.seq ?_; intro K hK)
            (refine WC.seq ?_; intro K hK)
            refine WC.region ?_
            refine WL.want rfl (WL1.give rfl (g_move rfl (.mk (v := .int _ _) rfl rfl)) ?_)
            refine WL.want rfl (WL1.give rfl (g_move rfl (.mk (v := .slice _ _ _) rfl rfl)) ?_)
            refine WL.want rfl (WL1.give rfl (g_len rfl (.mk rfl rfl) rfl) ?_)
            refine WL.want rfl (WL1.give rfl (g_lt rfl (.mk rfl rfl) (.mk rfl rfl) (decide_eq_true (by omega))) ?_)
            refine WL.nil ?_
            (refine hK _ _ ?_; clear hK)
            refine WC.cond_true (.mk rfl rfl) ?_
            refine WC.skip ?_
            (refine hK _ _ ?_; clear hK)
            (refine WC.seq ?_; intro K hK)
            refine WC.block ?_
            (refine WC.seq ?_; intro K hK)
            refine WC.quiet (by kernel_rfl) (by kernel_rfl) ?_
            refine WQ.want rfl (WQ1.give rfl (g_move rfl (.mk (v := .slice _ _ _) rfl rfl)) ?_)
            refine WQ.want rfl (WQ1.give rfl (g_move rfl (.mk (v := .int _ _) rfl rfl)) ?_)
            refine WQ.want rfl (WQ1.give rfl (g_indexAddr (sz := 4) rfl (.mk rfl rfl) (.mk rfl rfl) rfl rfl rfl (by omega) (fun _ _ => sl_some hs (by omega))) ?_)
            refine WQ.want rfl (WQ1.give rfl (g_fieldAddr (off := 0) rfl (.mk rfl rfl) rfl (fun _ _ => sl_some hs (by omega))) ?_)
            refine WQ.want rfl (WQ1.give rfl (g_load rfl (.mk rfl rfl) rfl (rd_sl hs ((flat_get band4 (by omega) (by decide)).trans rfl))) ?_)
            refine WQ.want rfl (WQ1.give rfl (g_eq rfl (.mk rfl rfl) (.mk rfl rfl) (decide_eq_true (by omega))) ?_)
            refine WQ.want rfl (WQ1.give rfl (g_move rfl (.mk (v := .bool _) rfl rfl)) ?_)
            refine WQ.wantG rfl rfl rfl rfl (WQ1.give rfl (g_move rfl (.mk (v := .int _ _) rfl rfl)) ?_)
            refine WQ.wantG rfl rfl rfl rfl (WQ1.give rfl (g_ne rfl (.mk rfl rfl) (.mk rfl rfl) (decide_eq_false (by omega))) ?_)
            refine WQ.wantG rfl rfl rfl rfl (WQ1.give rfl (g_move rfl (.mk (v := .bool _) rfl rfl)) ?_)
            refine WQ.wantG rfl rfl rfl rfl (WQ1.give rfl (g_move rfl (.mk (v := .slice _ _ _) rfl rfl)) ?_)
            refine WQ.wantG rfl rfl rfl rfl (WQ1.give rfl (g_move rfl (.mk (v := .int _ _) rfl rfl)) ?_)
            refine WQ.wantG rfl rfl rfl rfl (WQ1.give rfl (g_indexAddr (sz := 4) rfl (.mk rfl rfl) (.mk rfl rfl) rfl rfl rfl (by omega) (fun _ _ => sl_some hs (by omega))) ?_)
            refine WQ.wantG rfl rfl rfl rfl (WQ1.give rfl (g_fieldAddr (off := 3) rfl (.mk rfl rfl) rfl (fun _ _ => sl_some hs (by omega))) ?_)
            refine WQ.wantG rfl rfl rfl rfl (WQ1.give rfl (g_load rfl (.mk rfl rfl) rfl (rd_sl hs ((flat_get band4 (by omega) (by decide)).trans rfl))) ?_)
            refine WQ.wantG rfl rfl rfl rfl (WQ1.give rfl (g_move rfl (.mk (v := .slice _ _ _) rfl rfl)) ?_)
            refine WQ.wantG rfl rfl rfl rfl (WQ1.give rfl (g_move rfl (.mk (v := .int _ _) rfl rfl)) ?_)
            refine WQ.wantG rfl rfl rfl rfl (WQ1.give rfl (g_indexAddr (sz := 4) rfl (.mk rfl rfl) (.mk rfl rfl) rfl rfl rfl (by omega) (fun _ _ => sl_some hs (by omega))) ?_)
            refine WQ.wantG rfl rfl rfl rfl (WQ1.give rfl (g_fieldAddr (off := 3) rfl (.mk rfl rfl) rfl (fun _ _ => sl_some hs (by omega))) ?_)
            refine WQ.wantG rfl rfl rfl rfl (WQ1.give rfl (g_load rfl (.mk rfl rfl) rfl (rd_sl hs ((flat_get band4 (by omega) (by decide)).trans rfl))) ?_)
            refine WQ.wantG rfl rfl rfl rfl (WQ1.give rfl (g_lt rfl (.mk rfl rfl) (.mk rfl rfl) (decide_eq_false (by omega))) ?_)
            refine WQ.wantG rfl rfl rfl rfl (WQ1.give rfl (g_pickF rfl (.mk rfl rfl) (.mk (v := .bool _) rfl rfl)) ?_)
            refine WQ.wantG rfl rfl rfl rfl (WQ1.give rfl (g_move rfl (.mk (v := .bool _) rfl rfl)) ?_)
            refine WQ.wantG rfl rfl rfl rfl (WQ1.give rfl (g_move rfl (.mk (v := .slice _ _ _) rfl rfl)) ?_)
            refine WQ.wantG rfl rfl rfl rfl (WQ1.give rfl (g_move rfl (.mk (v := .int _ _) rfl rfl)) ?_)
            refine WQ.wantG rfl rfl rfl rfl (WQ1.give rfl (g_indexAddr (sz := 4) rfl (.mk rfl rfl) (.mk rfl rfl) rfl rfl rfl (by omega) (fun _ _ => sl_some hs (by omega))) ?_)
            refine WQ.wantG rfl rfl rfl rfl (WQ1.give rfl (g_fieldAddr (off := 3) rfl (.mk rfl rfl) rfl (fun _ _ => sl_some hs (by omega))) ?_)
            refine WQ.wantG rfl rfl rfl rfl (WQ1.give rfl (g_load rfl (.mk rfl rfl) rfl (rd_sl hs ((flat_get band4 (by omega) (by decide)).trans rfl))) ?_)
            refine WQ.wantG rfl rfl rfl rfl (WQ1.give rfl (g_move rfl (.mk (v := .slice _ _ _) rfl rfl)) ?_)
            refine WQ.wantG rfl rfl rfl rfl (WQ1.give rfl (g_move rfl (.mk (v := .int _ _) rfl rfl)) ?_)
            refine WQ.wantG rfl rfl rfl rfl (WQ1.give rfl (g_indexAddr (sz := 4) rfl (.mk rfl rfl) (.mk rfl rfl) rfl rfl rfl (by omega) (fun _ _ => sl_some hs (by omega))) ?_)
            refine WQ.wantG rfl rfl rfl rfl (WQ1.give rfl (g_fieldAddr (off := 3) rfl (.mk rfl rfl) rfl (fun _ _ => sl_some hs (by omega))) ?_)
            refine WQ.wantG rfl rfl rfl rfl (WQ1.give rfl (g_load rfl (.mk rfl rfl) rfl (rd_sl hs ((flat_get band4 (by omega) (by decide)).trans rfl))) ?_)
            refine WQ.wantG rfl rfl rfl rfl (WQ1.give rfl (g_eq rfl (.mk rfl rfl) (.mk rfl rfl) (decide_eq_false (by omega))) ?_)
            refine WQ.wantG rfl rfl rfl rfl (WQ1.give rfl (g_move rfl (.mk (v := .bool _) rfl rfl)) ?_)
            refine WQ.skipG rfl rfl rfl rfl rfl rfl ?_
            refine WQ.skipG rfl rfl rfl rfl rfl rfl ?_
            refine WQ.skipG rfl rfl rfl rfl rfl rfl ?_
            refine WQ.wantG rfl rfl rfl rfl (WQ1.give rfl (g_pickF rfl (.mk rfl rfl) (.mk (v := .bool _) rfl rfl)) ?_)
            refine WQ.wantG rfl rfl rfl rfl (WQ1.give rfl (g_pickF rfl (.mk rfl rfl) (.mk (v := .bool _) rfl rfl)) ?_)
            refine WQ.want rfl (WQ1.give rfl (g_pickT rfl (.mk rfl rfl) (.mk (v := .bool _) rfl rfl)) ?_)
            refine WQ.nil ?_
            (refine hK _ _ ?_; clear hK)
            refine WC.cond_false (.mk rfl rfl) ?_
            refine WC.skip ?_
            (refine hK _ _ ?_; clear hK)
            refine WC.region ?_
            refine WL.want rfl (WL1.give rfl (g_move rfl (.mk (v := .int _ _) rfl rfl)) ?_)
            refine WL.want rfl (WL1.give rfl (g_add rfl (.mk rfl rfl) (.mk rfl rfl) (IntWalk.i64_in _ (by omega))) ?_)
            refine WL.want rfl (WL1.give rfl (g_assign rfl (.mk (v := .int _ _) rfl rfl)) ?_)
            refine WL.nil ?_
            exact ⟨k + 1, (by repeat (first | with_reducible exact Out.refl _ _ | refine Out.set rfl ?_ | refine Out.put rfl ?_ | refine Out.sets rfl ?_ | refine Out.hav rfl ?_ | exact Out.refl _ _)), ⟨rfl, trivial⟩, .refl _, by omega, by omega⟩
        · (refine WC.seq ?_; intro K hK)
          (refine WC.seq ?_; intro K hK)
          refine WC.region ?_
          refine WL.want rfl (WL1.give rfl (g_move rfl (.mk (v := .int _ _) rfl rfl)) ?_)
          refine WL.want rfl (WL1.give rfl (g_move rfl (.mk (v := .slice _ _ _) rfl rfl)) ?_)
          refine WL.want rfl (WL1.give rfl (g_len rfl (.mk rfl rfl) rfl) ?_)
          refine WL.want rfl (WL1.give rfl (g_lt rfl (.mk rfl rfl) (.mk rfl rfl) (decide_eq_true (by omega))) ?_)
          refine WL.nil ?_
          (refine hK _ _ ?_; clear hK)
          refine WC.cond_true (.mk rfl rfl) ?_
          refine WC.skip ?_
          (refine hK _ _ ?_; clear hK)
          (refine WC.seq ?_; intro K hK)
          refine WC.block ?_
          (refine WC.seq ?_; intro K hK)
          refine WC.quiet (by kernel_rfl) (by kernel_rfl) ?_
          refine WQ.want rfl (WQ1.give rfl (g_move rfl (.mk (v := .slice _ _ _) rfl rfl)) ?_)
          refine WQ.want rfl (WQ1.give rfl (g_move rfl (.mk (v := .int _ _) rfl rfl)) ?_)
          refine WQ.want rfl (WQ1.give rfl (g_indexAddr (sz := 4) rfl (.mk rfl rfl) (.mk rfl rfl) rfl rfl rfl (by omega) (fun _ _ => sl_some hs (by omega))) ?_)
          refine WQ.want rfl (WQ1.give rfl (g_fieldAddr (off := 0) rfl (.mk rfl rfl) rfl (fun _ _ => sl_some hs (by omega))) ?_)
          refine WQ.want rfl (WQ1.give rfl (g_load rfl (.mk rfl rfl) rfl (rd_sl hs ((flat_get band4 (by omega) (by decide)).trans rfl))) ?_)
          refine WQ.want rfl (WQ1.give rfl (g_eq rfl (.mk rfl rfl) (.mk rfl rfl) (decide_eq_false (by omega))) ?_)
          refine WQ.want rfl (WQ1.give rfl (g_move rfl (.mk (v := .bool _) rfl rfl)) ?_)
          refine WQ.skipG rfl rfl rfl rfl rfl rfl ?_
          refine WQ.skipG rfl rfl rfl rfl rfl rfl ?_
          refine WQ.skipG rfl rfl rfl rfl rfl rfl ?_
          refine WQ.skipU rfl rfl rfl rfl rfl ?_
          refine WQ.skipU rfl rfl rfl rfl rfl ?_
          refine WQ.skipU rfl rfl rfl rfl rfl ?_
          refine WQ.skipU rfl rfl rfl rfl rfl ?_
          refine WQ.skipU rfl rfl rfl rfl rfl ?_
          refine WQ.skipU rfl rfl rfl rfl rfl ?_
          refine WQ.skipU rfl rfl rfl rfl rfl ?_
          refine WQ.skipU rfl rfl rfl rfl rfl ?_
          refine WQ.skipU rfl rfl rfl rfl rfl ?_
          refine WQ.skipU rfl rfl rfl rfl rfl ?_
          refine WQ.skipU rfl rfl rfl rfl rfl ?_
          refine WQ.skipG rfl rfl rfl rfl rfl rfl ?_
          refine WQ.skipG rfl rfl rfl rfl rfl rfl ?_
          refine WQ.skipU rfl rfl rfl rfl rfl ?_
          refine WQ.skipU rfl rfl rfl rfl rfl ?_
          refine WQ.skipU rfl rfl rfl rfl rfl ?_
          refine WQ.skipU rfl rfl rfl rfl rfl ?_
          refine WQ.skipU rfl rfl rfl rfl rfl ?_
          refine WQ.skipU rfl rfl rfl rfl rfl ?_
          refine WQ.skipU rfl rfl rfl rfl rfl ?_
          refine WQ.skipU rfl rfl rfl rfl rfl ?_
          refine WQ.skipU rfl rfl rfl rfl rfl ?_
          refine WQ.skipU rfl rfl rfl rfl rfl ?_
          refine WQ.skipU rfl rfl rfl rfl rfl ?_
          refine WQ.skipU rfl rfl rfl rfl rfl ?_
          refine WQ.skipU rfl rfl rfl rfl rfl ?_
          refine WQ.skipU rfl rfl rfl rfl rfl ?_
          refine WQ.skipU rfl rfl rfl rfl rfl ?_
          refine WQ.skipU rfl rfl rfl rfl rfl ?_
          refine WQ.skipG rfl rfl rfl rfl rfl rfl ?_
          refine WQ.want rfl (WQ1.give rfl (g_pickF rfl (.mk rfl rfl) (.mk (v := .bool _) rfl rfl)) ?_)
          refine WQ.nil ?_
          (refine hK _ _ ?_; clear hK)
          refine WC.cond_false (.mk rfl rfl) ?_
          refine WC.skip ?_
          (refine hK _ _ ?_; clear hK)
          refine WC.region ?_
          refine WL.want rfl (WL1.give rfl (g_move rfl (.mk (v := .int _ _) rfl rfl)) ?_)
          refine WL.want rfl (WL1.give rfl (g_add rfl (.mk rfl rfl) (.mk rfl rfl) (IntWalk.i64_in _ (by omega))) ?_)
          refine WL.want rfl (WL1.give rfl (g_assign rfl (.mk (v := .int _ _) rfl rfl)) ?_)
          refine WL.nil ?_
          exact ⟨k + 1, (by repeat (first | with_reducible exact Out.refl _ _ | refine Out.set rfl ?_ | refine Out.put rfl ?_ | refine Out.sets rfl ?_ | refine Out.hav rfl ?_ | exact Out.refl _ _)), ⟨rfl, trivial⟩, .refl _, by omega, by omega⟩
      · (refine WC.seq ?_; intro K hK)
        (refine WC.seq ?_; intro K hK)
        refine WC.region ?_
        refine WL.want rfl (WL1.give rfl (g_move rfl (.mk (v := .int _ _) rfl rfl)) ?_)
        refine WL.want rfl (WL1.give rfl (g_move rfl (.mk (v := .slice _ _ _) rfl rfl)) ?_)
        refine WL.want rfl (WL1.give rfl (g_len rfl (.mk rfl rfl) rfl) ?_)
        refine WL.want rfl (WL1.give rfl (g_lt rfl (.mk rfl rfl) (.mk rfl rfl) (decide_eq_false (by omega))) ?_)
        refine WL.nil ?_
        (refine hK _ _ ?_; clear hK)
        refine WC.cond_false (.mk rfl rfl) ?_
        refine WC.exit ?_
        (clear hK; refine hK _ _ ?_; clear hK)
        (refine WC.seq ?_; intro K hK)
        refine WC.region ?_
        refine WL.want rfl (WL1.give rfl (g_move rfl (.mk (v := .int _ _) rfl rfl)) ?_)
        refine WL.want rfl (WL1.give rfl (g_eq rfl (.mk rfl rfl) (.mk rfl rfl) (decide_eq_false (by omega))) ?_)
        refine WL.want rfl (WL1.give rfl (g_move rfl (.mk (v := .bool _) rfl rfl)) ?_)
        refine WL.wantG rfl rfl rfl rfl (WL1.give rfl (g_move rfl (.mk (v := .int _ _) rfl rfl)) ?_)
        refine WL.wantG rfl rfl rfl rfl (WL1.give rfl (g_eq rfl (.mk rfl rfl) (.mk rfl rfl) (decide_eq_true (by omega))) ?_)
        refine WL.wantG rfl rfl rfl rfl (WL1.give rfl (g_move rfl (.mk (v := .bool _) rfl rfl)) ?_)
        refine WL.wantG rfl rfl rfl rfl (WL1.give rfl (g_move rfl (.mk (v := .slice _ _ _) rfl rfl)) ?_)
        refine WL.wantG rfl rfl rfl rfl (WL1.give rfl (g_move rfl (.mk (v := .int _ _) rfl rfl)) ?_)
        refine WL.wantG rfl rfl rfl rfl (WL1.give rfl (g_indexAddr (sz := 4) rfl (.mk rfl rfl) (.mk rfl rfl) rfl rfl rfl (by omega) (fun _ _ => sl_some hs (by omega))) ?_)
        refine WL.wantG rfl rfl rfl rfl (WL1.give rfl (g_fieldAddr (off := 0) rfl (.mk rfl rfl) rfl (fun _ _ => sl_some hs (by omega))) ?_)
        refine WL.wantG rfl rfl rfl rfl (WL1.give rfl (g_load rfl (.mk rfl rfl) rfl (rd_sl hs ((flat_get band4 (by omega) (by decide)).trans rfl))) ?_)
        refine WL.wantG rfl rfl rfl rfl (WL1.give rfl (g_eq rfl (.mk rfl rfl) (.mk rfl rfl) (decide_eq_true (by omega))) ?_)
        refine WL.wantG rfl rfl rfl rfl (WL1.give rfl (g_pickT rfl (.mk rfl rfl) (.mk (v := .bool _) rfl rfl)) ?_)
        refine WL.want rfl (WL1.give rfl (g_pickF rfl (.mk rfl rfl) (.mk (v := .bool _) rfl rfl)) ?_)
        refine WL.want rfl (WL1.give rfl (g_assign rfl (.mk (v := .bool _) rfl rfl)) ?_)
        refine WL.nil ?_
        (refine hK _ _ ?_; clear hK)
        refine WC.ret ?_
        exact fun w' hw' => ⟨rfl, hw'.1⟩
  · refine calls_wc (args := [.slice A l.length c]) [2] [] Try.func7 rfl Try.ntmps7 rfl rfl rfl rfl (H.refl w) ?_
    (refine WC.seq ?_; intro K hK)
    refine WC.region ?_
    refine WL.want rfl (WL1.give rfl (g_assign rfl (.mk (v := .bool _) rfl rfl)) ?_)
    refine WL.nil ?_
    (refine hK _ _ ?_; clear hK)
    (refine WC.seq ?_; intro K hK)
    (refine WC.seq ?_; intro K hK)
    refine WC.region ?_
    refine WL.want rfl (WL1.callP rfl rfl rfl .nil (fun w hw => awake_any w) ?_)
    refine WL.want rfl (WL1.give rfl (g_notT rfl (.mk rfl rfl)) ?_)
    refine WL.want rfl (WL1.give rfl (g_move rfl (.mk (v := .bool _) rfl rfl)) ?_)
    refine WL.wantG rfl rfl rfl rfl (WL1.give rfl (g_move rfl (.mk (v := .slice _ _ _) rfl rfl)) ?_)
    refine WL.wantG rfl rfl rfl rfl (WL1.give rfl (g_len rfl (.mk rfl rfl) rfl) ?_)
    refine WL.wantG rfl rfl rfl rfl (WL1.give rfl (g_gt rfl (.mk rfl rfl) (.mk rfl rfl) (decide_eq_true (by omega))) ?_)
    refine WL.want rfl (WL1.give rfl (g_pickF rfl (.mk rfl rfl) (.mk (v := .bool _) rfl rfl)) ?_)
    refine WL.nil ?_
    (refine hK _ _ ?_; clear hK)
    refine WC.cond_true (.mk rfl rfl) ?_
    (refine WC.seq ?_; intro K hK)
    refine WC.region ?_
    refine WL.want rfl (WL1.callP rfl rfl rfl .nil (fun w hw => awake_any w) ?_)
    refine WL.want rfl (WL1.give rfl (g_assign rfl (.mk (v := .bool _) rfl rfl)) ?_)
    refine WL.nil ?_
    (refine hK _ _ ?_; clear hK)
    refine WC.ret ?_
    exact fun w' hw' => ⟨rfl, hw'.1⟩

set_option maxRecDepth 100000 in
theorem lifted (os : Os) (started : os.Started) (H : Type) (enc : TypeId × Value → H) :
    ReturnsInHanded {} Try.checked os 7 .any (Rows.wearChosenSpec.pre6 enc Try.prog Try.f7 Rows.wearChosenRow.domain false) (Rows.wearChosenSpec.post enc Try.prog Try.f7 false true false false) := by
  refine returnsInHanded_of_change (C := Try.checked) own started (by kernel_rfl) Try.func7
    (ChangeSpec.witness6 (enc := enc) (C := Try.checked) false ⟨#[], #[.slice none 0 0], []⟩ 8 (by kernel_rfl) (by kernel_rfl) (by kernel_rfl) (by kernel_rfl)) ?_
  intro W base args ds gs before hval0 hW _ _
  have hval : ∀ (j : Nat) t v, Try.f7.params[j]? = some t → args[j]? = some v → Value.okWide Try.prog W .any base t v := hval0
  have hW' := hW
  obtain ⟨p, q, hA0, hV, rfl, hfz, hnd⟩ := hW
  have hA : DataW.TrodAll enc Try.prog W 0 (fun _ => true) true Try.f7.params.toList args.toList ds p := hA0
  rw [Try.params7] at hA hval
  obtain ⟨v0, vs0, d0, ds0, p0, q0, hargs, rfl, rfl, h0, r0⟩ := trodAll_cons hA
  obtain ⟨rfl, rfl, rfl⟩ := trodAll_nil r0
  obtain rfl : args = #[v0] := by cases args; simp_all
  obtain ⟨l, lb⟩ := open_bands (hval 0 22 v0 rfl rfl) h0
  refine (walk (w := W) v0 l lb).mono fun e W' ⟨he, hb⟩ => ?_
  subst he
  exact ⟨_, rfl, law_post laidOut (by kernel_rfl) rfl rfl Try.underlying4 (fun ds h => by match ds, h with | [_], _ => rfl) hW' hb⟩

theorem proved : Rows.WearChosenSaid :=
  OpenClaim.holds_of_wide 7 Try.f7 rfl rfl rfl rfl rfl rfl rfl ⟨rfl, rfl, rfl, rfl, rfl⟩ rfl rfl rfl rfl rfl (by kernel_rfl) Try.func7 (by kernel_rfl)
    (of_decide_eq_true (by kernel_rfl)) (by unfold Func.isWrapper; first | (rw [if_pos (by decide +kernel)]; kernel_rfl) | (rw [if_neg (by decide +kernel)]; exact ⟨rfl, rfl⟩))
    (fun os started H enc _ => lifted os started H enc)
end Go.Proofs.Ytgpjaocpdfcamaa.LWearChosen
