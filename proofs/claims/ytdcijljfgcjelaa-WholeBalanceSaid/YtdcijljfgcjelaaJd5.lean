/- Texts joined: Bal2, Bal3, Bal4, Bal5, Sf1, Sf2, Sf3. The parts say what each of them proves. No condition. -/
import Derived.Test.YtdcijljfgcjelaaJd4
namespace Go.Proofs.Ytdcijljfgcjelaa
set_option maxRecDepth 20000
open Go.RowKit
attribute [local irreducible] Calls
theorem rcount_e (n k : Nat) (w : World) (hn : n ≤ 60) (hk : k ≤ n) (hb : ∀ i, i ≤ k → cntF n i ≤ 1000000) : Calls Try.prog 72 #[iv n, iv k] w fun e w' => e = .returned (iv (cntF n k)) ∧ Below w.heap.size w w' := by
  refine calls_wc (args := [iv n, iv k]) [4] ([]) Try.func72 rfl Try.ntmps72 rfl rfl rfl rfl (H.refl w) ?_
  refine WC.seq fun K hK => ?_
  refine WC.region rfl ?_
  refine wG rfl rfl (g_assign rfl (.mk (v := .int _ _) rfl rfl)) ?_
  refine WL.nil ?_
  (refine hK _ _ ?_; clear hK)
  refine WC.seq fun K hK => ?_
  refine WC.region rfl ?_
  refine wG rfl rfl (g_assign rfl (.mk (v := .int _ _) rfl rfl)) ?_
  refine WL.nil ?_
  (refine hK _ _ ?_; clear hK)
  refine WC.seq fun K hK => ?_
  refine WC.seq fun K hK => ?_
  refine WC.region rfl ?_
  refine wG rfl rfl (g_assign rfl (.mk (v := .int _ _) rfl rfl)) ?_
  refine WL.nil ?_
  (refine hK _ _ ?_; clear hK)
  refine WC.block ?_
  refine WC.loop (8388592) (fun i : Nat => [(6, iv i), (5, iv (cntF n i))]) (fun _ => []) (fun i => i ≤ k) (fun i => k - i) 0 ⟨rfl, rfl, trivial⟩ (.refl _) (by omega) ?_
  intro i U hi
  have hbi := hb i hi
  by_cases hlt : i < k
  · have hb2 := hb (i + 1) (by omega)
    have e1 : cntF n (i + 1) = cntF n i * (n - i) / (i + 1) := rfl
    generalize hy : cntF n (i + 1) = y at e1 hb2
    generalize hx : cntF n i = x at hbi e1
    have hm : x * (n - i) ≤ 1000000 * 60 := Nat.mul_le_mul hbi (by omega)
    have hmul : IntKind.i64.wrap ((x : Int) * ((n : Int) - i)) = ((x * (n - i) : Nat) : Int) := by
      rw [show (n : Int) - i = ((n - i : Nat) : Int) from by omega, ← Int.natCast_mul]
      exact IntWalk.i64_in _ (by omega)
    generalize x * (n - i) = z at *
    have hq2 : (z : Int) / ((i : Int) + 1) = (y : Int) := by rw [e1]; exact (Int.natCast_ediv z (i + 1)).symm
    refine WC.seq fun K hK => ?_
    refine WC.seq fun K hK => ?_
    refine WC.region rfl ?_
    refine wG rfl rfl (g_move rfl (.mk (v := .int _ _) rfl rfl)) ?_
    refine wG rfl rfl (g_move rfl (.mk (v := .int _ _) rfl rfl)) ?_
    refine wG rfl rfl (g_lt rfl (.mk rfl rfl) (.mk rfl rfl) (decide_eq_true (by omega))) ?_
    refine WL.nil ?_
    (refine hK _ _ ?_; clear hK)
    refine WC.cond_true (.mk rfl rfl) ?_
    refine WC.skip ?_
    (refine hK _ _ ?_; clear hK)
    refine WC.seq fun K hK => ?_
    refine WC.block ?_
    refine WC.seq fun K hK => ?_
    refine WC.region rfl ?_
    refine wG rfl rfl (g_move rfl (.mk (v := .int _ _) rfl rfl)) ?_
    refine wG rfl rfl (g_move rfl (.mk (v := .int _ _) rfl rfl)) ?_
    refine wG rfl rfl (g_move rfl (.mk (v := .int _ _) rfl rfl)) ?_
    refine wG rfl rfl (g_sub rfl (.mk rfl rfl) (.mk rfl rfl) (IntWalk.i64_in _ (by omega))) ?_
    refine wG rfl rfl (g_mul rfl (.mk rfl rfl) (.mk rfl rfl) hmul) ?_
    refine wG rfl rfl (g_move rfl (.mk (v := .int _ _) rfl rfl)) ?_
    refine wG rfl rfl (g_add rfl (.mk rfl rfl) (.mk rfl rfl) (IntWalk.i64_in _ (by omega))) ?_
    refine wG rfl rfl (g_quo rfl (.mk rfl rfl) (.mk rfl rfl) (by omega) (IntWalk.i64_quo _ _ (by omega))) ?_
    refine wG rfl rfl (g_assign rfl (.mk (v := .int _ _) rfl rfl)) ?_
    refine WL.nil ?_
    (refine hK _ _ ?_; clear hK)
    refine WC.seq fun K hK => ?_
    refine WC.region rfl ?_
    refine wG rfl rfl (g_move rfl (.mk (v := .int _ _) rfl rfl)) ?_
    refine wG rfl rfl (g_gt rfl (.mk rfl rfl) (.mk rfl rfl) (decide_eq_false (by omega))) ?_
    refine WL.nil ?_
    (refine hK _ _ ?_; clear hK)
    refine WC.cond_false (.mk rfl rfl) ?_
    refine WC.skip ?_
    (refine hK _ _ ?_; clear hK)
    refine WC.region rfl ?_
    refine wG rfl rfl (g_move rfl (.mk (v := .int _ _) rfl rfl)) ?_
    refine wG rfl rfl (g_add rfl (.mk rfl rfl) (.mk rfl rfl) (IntWalk.i64_in _ (by omega))) ?_
    refine wG rfl rfl (g_assign rfl (.mk (v := .int _ _) rfl rfl)) ?_
    refine WL.nil ?_
    exact ⟨i + 1, (by repeat (first | with_reducible exact Out.refl _ _ | refine Out.set rfl ?_ | refine Out.put rfl ?_ | refine Out.sets rfl ?_ | refine Out.hav rfl ?_ | exact Out.refl _ _)), ⟨rfl, by rw [hy, ← hq2]; rfl, trivial⟩, .refl _, by omega, by omega⟩
  · obtain rfl : i = k := by omega
    refine WC.seq fun K hK => ?_
    refine WC.seq fun K hK => ?_
    refine WC.region rfl ?_
    refine wG rfl rfl (g_move rfl (.mk (v := .int _ _) rfl rfl)) ?_
    refine wG rfl rfl (g_move rfl (.mk (v := .int _ _) rfl rfl)) ?_
    refine wG rfl rfl (g_lt rfl (.mk rfl rfl) (.mk rfl rfl) (decide_eq_false (by omega))) ?_
    refine WL.nil ?_
    (refine hK _ _ ?_; clear hK)
    refine WC.cond_false (.mk rfl rfl) ?_
    refine WC.exit ?_
    (clear hK; refine hK _ _ ?_; clear hK)
    refine WC.seq fun K hK => ?_
    refine WC.region rfl ?_
    refine wG rfl rfl (g_move rfl (.mk (v := .int _ _) rfl rfl)) ?_
    refine wG rfl rfl (g_assign rfl (.mk (v := .int _ _) rfl rfl)) ?_
    refine WL.nil ?_
    (refine hK _ _ ?_; clear hK)
    refine WC.ret ?_
    exact fun w' hw' => ⟨rfl, hw'.1⟩
structure RCmp (v k q : Nat) : Prop where
  c : Cmp v k
  v5 : 5 ≤ v
  v13 : v ≤ 13
  k6 : k ≤ 6
  q4 : q ≤ 4096
  e : ends v k q (List.range k) = true
theorem rcmp_spec {v k q : Nat} (h : (cmpB v k && Nat.ble 5 v && Nat.ble v 13 && Nat.ble k 6 && Nat.ble q 4096 && ends v k q (List.range k)) = true) : RCmp v k q := by
  simp only [Bool.and_eq_true] at h
  exact ⟨cmpB_spec h.1.1.1.1.1, Nat.le_of_ble_eq_true h.1.1.1.1.2, Nat.le_of_ble_eq_true h.1.1.1.2, Nat.le_of_ble_eq_true h.1.1.2, Nat.le_of_ble_eq_true h.1.2, h.2⟩
theorem rCount_e (v k : Nat) (w : World) (h : Cmp v k) : Calls Try.prog 58 #[iv v, iv k] w fun e w' => e = .returned (iv (cntF v (min k (v - k)))) ∧ Below w.heap.size w w' := by
  have hv60 := h.v60
  have hkv := h.kv
  have hmin : (if (v : Int) - k < k then (v : Int) - k else (k : Int)) = ((min k (v - k) : Nat) : Int) := by split <;> omega
  have hcnt := fun w => rcount_e v (min k (v - k)) w hv60 (by omega) h.b
  rw [← hmin] at hcnt
  refine calls_wc (args := [iv v, iv k]) [4] [] Try.func58 rfl Try.ntmps58 rfl rfl rfl rfl (H.refl _) ?_
  refine WC.seq fun K hK => ?_
  refine WC.region rfl ?_
  refine wG rfl rfl (g_assign rfl (.mk (v := .int _ _) rfl rfl)) ?_
  refine WL.nil ?_
  (refine hK _ _ ?_; clear hK)
  refine WC.seq fun K hK => ?_
  refine WC.region rfl ?_
  refine wG rfl rfl (g_move rfl (.mk (v := .int _ _) rfl rfl)) ?_
  refine wG rfl rfl (g_move rfl (.mk (v := .int _ _) rfl rfl)) ?_
  refine wG rfl rfl (g_move rfl (.mk (v := .int _ _) rfl rfl)) ?_
  refine wG rfl rfl (g_move rfl (.mk (v := .int _ _) rfl rfl)) ?_
  refine wG rfl rfl (g_sub rfl (.mk rfl rfl) (.mk rfl rfl) (IntWalk.i64_in _ (by omega))) ?_
  refine wG rfl rfl (g_min rfl (.mk rfl rfl) (.mk rfl rfl) rfl) ?_
  refine WL.want rfl (WL1.callP rfl rfl rfl (.cons (.mk (v := .int _ _) rfl rfl) (.cons (.mk (v := .int _ _) rfl rfl) .nil)) (fun w hw => hcnt w) ?_)
  refine wG rfl rfl (g_assign rfl (.mk (v := .int _ _) rfl rfl)) ?_
  refine WL.nil ?_
  (refine hK _ _ ?_; clear hK)
  refine WC.ret ?_
  exact fun w' hw' => ⟨rfl, hw'.1⟩
set_option maxHeartbeats 2000000 in
theorem rchoose_n (v k q : Nat) (w : World) (h : RCmp v k q) (h13 : ¬ (v = 13 ∧ k = 4)) :
    Calls Try.prog 33 #[iv v, iv k] w fun e w' => ∃ u M, e = .returned u ∧ H w M w' ∧ ∃ A c, u = .tuple #[.agg #[iv v, .slice A (q + 1) c], iv 0] ∧ M = [] := by
  have hv5 := h.v5
  have hv13 := h.v13
  have hk4 := h.c.k4
  have hk6 := h.k6
  have hkv := h.c.kv
  have hcc := h.c.c
  have hct := fun w => rCount_e v k w h.c
  have hcp := fun w => rcomplete_n v k q w (by omega) (by omega) hkv h.q4 h.e
  generalize cntF v (min k (v - k)) = cn at hcc hct
  refine calls_wcG (args := [iv v, iv k]) [.cell 4 44, .tmp 5] [] Try.func33 rfl Try.ntmps33 rfl rfl (H.refl _) ?_
  refine WC.seq fun K hK => ?_
  refine WC.region rfl ?_
  refine WL.want rfl (WL1.alloc rfl rfl rfl rfl (fun b4 => ?_))
  refine wG rfl rfl (g_assign rfl (.mk (v := .int _ _) rfl rfl)) ?_
  refine WL.nil ?_
  (refine hK _ _ ?_; clear hK)
  refine WC.seq fun K hK => ?_
  refine WC.seq fun K hK => ?_
  refine WC.region rfl ?_
  refine wG rfl rfl (g_move rfl (.mk (v := .int _ _) rfl rfl)) ?_
  refine wG rfl rfl (g_lt rfl (.mk rfl rfl) (.mk rfl rfl) (decide_eq_false (by omega))) ?_
  refine wG rfl rfl (g_move rfl (.mk (v := .bool _) rfl rfl)) ?_
  refine WL.wantG rfl rfl rfl rfl (WL1.give rfl (g_move rfl (.mk (v := .int _ _) rfl rfl)) ?_)
  refine WL.wantG rfl rfl rfl rfl (WL1.give rfl (g_gt rfl (.mk rfl rfl) (.mk rfl rfl) (decide_eq_false (by omega))) ?_)
  refine wG rfl rfl (g_pickF rfl (.mk rfl rfl) (.mk (v := .bool _) rfl rfl)) ?_
  refine wG rfl rfl (g_move rfl (.mk (v := .bool _) rfl rfl)) ?_
  refine WL.wantG rfl rfl rfl rfl (WL1.give rfl (g_move rfl (.mk (v := .int _ _) rfl rfl)) ?_)
  refine WL.wantG rfl rfl rfl rfl (WL1.give rfl (g_move rfl (.mk (v := .int _ _) rfl rfl)) ?_)
  refine WL.wantG rfl rfl rfl rfl (WL1.give rfl (g_lt rfl (.mk rfl rfl) (.mk rfl rfl) (decide_eq_false (by omega))) ?_)
  refine wG rfl rfl (g_pickF rfl (.mk rfl rfl) (.mk (v := .bool _) rfl rfl)) ?_
  refine wG rfl rfl (g_move rfl (.mk (v := .bool _) rfl rfl)) ?_
  refine WL.wantG rfl rfl rfl rfl (WL1.give rfl (g_move rfl (.mk (v := .int _ _) rfl rfl)) ?_)
  refine WL.wantG rfl rfl rfl rfl (WL1.give rfl (g_gt rfl (.mk rfl rfl) (.mk rfl rfl) (decide_eq_false (by omega))) ?_)
  refine wG rfl rfl (g_pickF rfl (.mk rfl rfl) (.mk (v := .bool _) rfl rfl)) ?_
  refine WL.nil ?_
  (refine hK _ _ ?_; clear hK)
  refine WC.cond_false (.mk rfl rfl) ?_
  refine WC.skip ?_
  (refine hK _ _ ?_; clear hK)
  refine WC.seq fun K hK => ?_
  refine WC.region rfl ?_
  refine WL.want rfl (WL1.lit (cs := [_, _, _, _, _]) elI rfl rfl rfl (.cons (.mk (v := .int _ _) rfl rfl) (.cons (.mk (v := .int _ _) rfl rfl) (.cons (.mk (v := .int _ _) rfl rfl) (.cons (.mk (v := .int _ _) rfl rfl) (.cons (.mk (v := .int _ _) rfl rfl) .nil))))) rfl (by first | (simp [Value.cells]; done) | fail) rfl rfl (fun b27 => ?_))
  refine wG rfl rfl (g_assign rfl (.mk (v := .slice _ _ _) rfl rfl)) ?_
  refine WL.nil ?_
  (refine hK _ _ ?_; clear hK)
  refine WC.seq fun K hK => ?_
  refine WC.seq fun K hK => ?_
  refine WC.region rfl ?_
  refine wG rfl rfl (g_assign rfl (.mk (v := .int _ _) rfl rfl)) ?_
  refine WL.nil ?_
  (refine hK _ _ ?_; clear hK)
  refine WC.block ?_
  refine WC.loop (18014398241046944) (fun i : Nat => [(7, iv i)]) (fun _ => [vec (some ⟨b27, 0, none⟩) 5 5 3 1 [iv 2, iv 3, iv 4, iv 5, iv 7], pt b4 DT [iv 0, .slice none 0 0]]) (fun i => i ≤ 5) (fun i => 5 - i) 0 ⟨rfl, trivial⟩ (.refl _) (by omega) ?_
  intro i U hi
  obtain rfl | rfl | rfl | rfl | rfl | rfl : i = 0 ∨ i = 1 ∨ i = 2 ∨ i = 3 ∨ i = 4 ∨ i = 5 := by omega
  · by_cases h7 : v = 7
    · refine WC.seq fun K hK => ?_
      refine WC.seq fun K hK => ?_
      refine WC.region rfl ?_
      refine wG rfl rfl (g_move rfl (.mk (v := .int _ _) rfl rfl)) ?_
      refine wG rfl rfl (g_move rfl (.mk (v := .slice _ _ _) rfl rfl)) ?_
      refine wG rfl rfl (g_len rfl (.mk rfl rfl) rfl) ?_
      refine wG rfl rfl (g_lt rfl (.mk rfl rfl) (.mk rfl rfl) (decide_eq_true (by omega))) ?_
      refine WL.nil ?_
      (refine hK _ _ ?_; clear hK)
      refine WC.cond_true (.mk rfl rfl) ?_
      refine WC.skip ?_
      (refine hK _ _ ?_; clear hK)
      refine WC.seq fun K hK => ?_
      refine WC.block ?_
      refine WC.seq fun K hK => ?_
      refine WC.region rfl ?_
      refine wG rfl rfl (g_move rfl (.mk (v := .slice _ _ _) rfl rfl)) ?_
      refine wG rfl rfl (g_move rfl (.mk (v := .int _ _) rfl rfl)) ?_
      refine wG rfl rfl (g_indexAddr (sz := 1) rfl (.mk rfl rfl) (.mk rfl rfl) rfl rfl (show _ = ((0 : Nat) : Int) from rfl) (by omega) (fun _ _ => rfl)) ?_
      refine wG rfl rfl (g_load rfl (.mk rfl rfl) rfl (rd_vec (.head _) rfl)) ?_
      refine wG rfl rfl (g_assign rfl (.mk (v := .int _ _) rfl rfl)) ?_
      refine WL.nil ?_
      (refine hK _ _ ?_; clear hK)
      refine WC.seq fun K hK => ?_
      refine WC.region rfl ?_
      refine wG rfl rfl (g_move rfl (.mk (v := .int _ _) rfl rfl)) ?_
      refine wG rfl rfl (g_move rfl (.mk (v := .int _ _) rfl rfl)) ?_
      refine wG rfl rfl (g_move rfl (.mk (v := .int _ _) rfl rfl)) ?_
      refine wG rfl rfl (g_mul rfl (.mk rfl rfl) (.mk rfl rfl) (IntWalk.i64_in _ (by omega))) ?_
      refine wG rfl rfl (g_move rfl (.mk (v := .int _ _) rfl rfl)) ?_
      refine wG rfl rfl (g_add rfl (.mk rfl rfl) (.mk rfl rfl) (IntWalk.i64_in _ (by omega))) ?_
      refine wG rfl rfl (g_add rfl (.mk rfl rfl) (.mk rfl rfl) (IntWalk.i64_in _ (by omega))) ?_
      refine wG rfl rfl (g_eq rfl (.mk rfl rfl) (.mk rfl rfl) (decide_eq_true (by omega))) ?_
      refine wG rfl rfl (g_move rfl (.mk (v := .bool _) rfl rfl)) ?_
      refine WL.wantG rfl rfl rfl rfl (WL1.give rfl (g_move rfl (.mk (v := .int _ _) rfl rfl)) ?_)
      refine WL.wantG rfl rfl rfl rfl (WL1.give rfl (g_move rfl (.mk (v := .int _ _) rfl rfl)) ?_)
      refine WL.wantG rfl rfl rfl rfl (WL1.give rfl (g_add rfl (.mk rfl rfl) (.mk rfl rfl) (IntWalk.i64_in _ (by omega))) ?_)
      refine WL.wantG rfl rfl rfl rfl (WL1.give rfl (g_eq rfl (.mk rfl rfl) (.mk rfl rfl) (decide_eq_false (by omega))) ?_)
      refine wG rfl rfl (g_pickT rfl (.mk rfl rfl) (.mk (v := .bool _) rfl rfl)) ?_
      refine WL.nil ?_
      (refine hK _ _ ?_; clear hK)
      refine WC.cond_false (.mk rfl rfl) ?_
      refine WC.skip ?_
      (refine hK _ _ ?_; clear hK)
      refine WC.region rfl ?_
      refine wG rfl rfl (g_move rfl (.mk (v := .int _ _) rfl rfl)) ?_
      refine wG rfl rfl (g_add rfl (.mk rfl rfl) (.mk rfl rfl) (IntWalk.i64_in _ (by omega))) ?_
      refine wG rfl rfl (g_assign rfl (.mk (v := .int _ _) rfl rfl)) ?_
      refine WL.nil ?_
      exact ⟨1, (by repeat (first | with_reducible exact Out.refl _ _ | refine Out.set rfl ?_ | refine Out.put rfl ?_ | refine Out.sets rfl ?_ | refine Out.hav rfl ?_ | exact Out.refl _ _)), ⟨rfl, trivial⟩, .refl _, by omega, by omega⟩
    · refine WC.seq fun K hK => ?_
      refine WC.seq fun K hK => ?_
      refine WC.region rfl ?_
      refine wG rfl rfl (g_move rfl (.mk (v := .int _ _) rfl rfl)) ?_
      refine wG rfl rfl (g_move rfl (.mk (v := .slice _ _ _) rfl rfl)) ?_
      refine wG rfl rfl (g_len rfl (.mk rfl rfl) rfl) ?_
      refine wG rfl rfl (g_lt rfl (.mk rfl rfl) (.mk rfl rfl) (decide_eq_true (by omega))) ?_
      refine WL.nil ?_
      (refine hK _ _ ?_; clear hK)
      refine WC.cond_true (.mk rfl rfl) ?_
      refine WC.skip ?_
      (refine hK _ _ ?_; clear hK)
      refine WC.seq fun K hK => ?_
      refine WC.block ?_
      refine WC.seq fun K hK => ?_
      refine WC.region rfl ?_
      refine wG rfl rfl (g_move rfl (.mk (v := .slice _ _ _) rfl rfl)) ?_
      refine wG rfl rfl (g_move rfl (.mk (v := .int _ _) rfl rfl)) ?_
      refine wG rfl rfl (g_indexAddr (sz := 1) rfl (.mk rfl rfl) (.mk rfl rfl) rfl rfl (show _ = ((0 : Nat) : Int) from rfl) (by omega) (fun _ _ => rfl)) ?_
      refine wG rfl rfl (g_load rfl (.mk rfl rfl) rfl (rd_vec (.head _) rfl)) ?_
      refine wG rfl rfl (g_assign rfl (.mk (v := .int _ _) rfl rfl)) ?_
      refine WL.nil ?_
      (refine hK _ _ ?_; clear hK)
      refine WC.seq fun K hK => ?_
      refine WC.region rfl ?_
      refine wG rfl rfl (g_move rfl (.mk (v := .int _ _) rfl rfl)) ?_
      refine wG rfl rfl (g_move rfl (.mk (v := .int _ _) rfl rfl)) ?_
      refine wG rfl rfl (g_move rfl (.mk (v := .int _ _) rfl rfl)) ?_
      refine wG rfl rfl (g_mul rfl (.mk rfl rfl) (.mk rfl rfl) (IntWalk.i64_in _ (by omega))) ?_
      refine wG rfl rfl (g_move rfl (.mk (v := .int _ _) rfl rfl)) ?_
      refine wG rfl rfl (g_add rfl (.mk rfl rfl) (.mk rfl rfl) (IntWalk.i64_in _ (by omega))) ?_
      refine wG rfl rfl (g_add rfl (.mk rfl rfl) (.mk rfl rfl) (IntWalk.i64_in _ (by omega))) ?_
      refine wG rfl rfl (g_eq rfl (.mk rfl rfl) (.mk rfl rfl) (decide_eq_false (by omega))) ?_
      refine wG rfl rfl (g_move rfl (.mk (v := .bool _) rfl rfl)) ?_
      refine WL.skipG rfl rfl rfl rfl rfl rfl ?_
      refine WL.skipG rfl rfl rfl rfl rfl rfl ?_
      refine WL.skipG rfl rfl rfl rfl rfl rfl ?_
      refine WL.skipG rfl rfl rfl rfl rfl rfl ?_
      refine wG rfl rfl (g_pickF rfl (.mk rfl rfl) (.mk (v := .bool _) rfl rfl)) ?_
      refine WL.nil ?_
      (refine hK _ _ ?_; clear hK)
      refine WC.cond_false (.mk rfl rfl) ?_
      refine WC.skip ?_
      (refine hK _ _ ?_; clear hK)
      refine WC.region rfl ?_
      refine wG rfl rfl (g_move rfl (.mk (v := .int _ _) rfl rfl)) ?_
      refine wG rfl rfl (g_add rfl (.mk rfl rfl) (.mk rfl rfl) (IntWalk.i64_in _ (by omega))) ?_
      refine wG rfl rfl (g_assign rfl (.mk (v := .int _ _) rfl rfl)) ?_
      refine WL.nil ?_
      exact ⟨1, (by repeat (first | with_reducible exact Out.refl _ _ | refine Out.set rfl ?_ | refine Out.put rfl ?_ | refine Out.sets rfl ?_ | refine Out.hav rfl ?_ | exact Out.refl _ _)), ⟨rfl, trivial⟩, .refl _, by omega, by omega⟩
  · by_cases h7 : v = 13
    · refine WC.seq fun K hK => ?_
      refine WC.seq fun K hK => ?_
      refine WC.region rfl ?_
      refine wG rfl rfl (g_move rfl (.mk (v := .int _ _) rfl rfl)) ?_
      refine wG rfl rfl (g_move rfl (.mk (v := .slice _ _ _) rfl rfl)) ?_
      refine wG rfl rfl (g_len rfl (.mk rfl rfl) rfl) ?_
      refine wG rfl rfl (g_lt rfl (.mk rfl rfl) (.mk rfl rfl) (decide_eq_true (by omega))) ?_
      refine WL.nil ?_
      (refine hK _ _ ?_; clear hK)
      refine WC.cond_true (.mk rfl rfl) ?_
      refine WC.skip ?_
      (refine hK _ _ ?_; clear hK)
      refine WC.seq fun K hK => ?_
      refine WC.block ?_
      refine WC.seq fun K hK => ?_
      refine WC.region rfl ?_
      refine wG rfl rfl (g_move rfl (.mk (v := .slice _ _ _) rfl rfl)) ?_
      refine wG rfl rfl (g_move rfl (.mk (v := .int _ _) rfl rfl)) ?_
      refine wG rfl rfl (g_indexAddr (sz := 1) rfl (.mk rfl rfl) (.mk rfl rfl) rfl rfl (show _ = ((1 : Nat) : Int) from rfl) (by omega) (fun _ _ => rfl)) ?_
      refine wG rfl rfl (g_load rfl (.mk rfl rfl) rfl (rd_vec (.head _) rfl)) ?_
      refine wG rfl rfl (g_assign rfl (.mk (v := .int _ _) rfl rfl)) ?_
      refine WL.nil ?_
      (refine hK _ _ ?_; clear hK)
      refine WC.seq fun K hK => ?_
      refine WC.region rfl ?_
      refine wG rfl rfl (g_move rfl (.mk (v := .int _ _) rfl rfl)) ?_
      refine wG rfl rfl (g_move rfl (.mk (v := .int _ _) rfl rfl)) ?_
      refine wG rfl rfl (g_move rfl (.mk (v := .int _ _) rfl rfl)) ?_
      refine wG rfl rfl (g_mul rfl (.mk rfl rfl) (.mk rfl rfl) (IntWalk.i64_in _ (by omega))) ?_
      refine wG rfl rfl (g_move rfl (.mk (v := .int _ _) rfl rfl)) ?_
      refine wG rfl rfl (g_add rfl (.mk rfl rfl) (.mk rfl rfl) (IntWalk.i64_in _ (by omega))) ?_
      refine wG rfl rfl (g_add rfl (.mk rfl rfl) (.mk rfl rfl) (IntWalk.i64_in _ (by omega))) ?_
      refine wG rfl rfl (g_eq rfl (.mk rfl rfl) (.mk rfl rfl) (decide_eq_true (by omega))) ?_
      refine wG rfl rfl (g_move rfl (.mk (v := .bool _) rfl rfl)) ?_
      refine WL.wantG rfl rfl rfl rfl (WL1.give rfl (g_move rfl (.mk (v := .int _ _) rfl rfl)) ?_)
      refine WL.wantG rfl rfl rfl rfl (WL1.give rfl (g_move rfl (.mk (v := .int _ _) rfl rfl)) ?_)
      refine WL.wantG rfl rfl rfl rfl (WL1.give rfl (g_add rfl (.mk rfl rfl) (.mk rfl rfl) (IntWalk.i64_in _ (by omega))) ?_)
      refine WL.wantG rfl rfl rfl rfl (WL1.give rfl (g_eq rfl (.mk rfl rfl) (.mk rfl rfl) (decide_eq_false (by omega))) ?_)
      refine wG rfl rfl (g_pickT rfl (.mk rfl rfl) (.mk (v := .bool _) rfl rfl)) ?_
      refine WL.nil ?_
      (refine hK _ _ ?_; clear hK)
      refine WC.cond_false (.mk rfl rfl) ?_
      refine WC.skip ?_
      (refine hK _ _ ?_; clear hK)
      refine WC.region rfl ?_
      refine wG rfl rfl (g_move rfl (.mk (v := .int _ _) rfl rfl)) ?_
      refine wG rfl rfl (g_add rfl (.mk rfl rfl) (.mk rfl rfl) (IntWalk.i64_in _ (by omega))) ?_
      refine wG rfl rfl (g_assign rfl (.mk (v := .int _ _) rfl rfl)) ?_
      refine WL.nil ?_
      exact ⟨2, (by repeat (first | with_reducible exact Out.refl _ _ | refine Out.set rfl ?_ | refine Out.put rfl ?_ | refine Out.sets rfl ?_ | refine Out.hav rfl ?_ | exact Out.refl _ _)), ⟨rfl, trivial⟩, .refl _, by omega, by omega⟩
    · refine WC.seq fun K hK => ?_
      refine WC.seq fun K hK => ?_
      refine WC.region rfl ?_
      refine wG rfl rfl (g_move rfl (.mk (v := .int _ _) rfl rfl)) ?_
      refine wG rfl rfl (g_move rfl (.mk (v := .slice _ _ _) rfl rfl)) ?_
      refine wG rfl rfl (g_len rfl (.mk rfl rfl) rfl) ?_
      refine wG rfl rfl (g_lt rfl (.mk rfl rfl) (.mk rfl rfl) (decide_eq_true (by omega))) ?_
      refine WL.nil ?_
      (refine hK _ _ ?_; clear hK)
      refine WC.cond_true (.mk rfl rfl) ?_
      refine WC.skip ?_
      (refine hK _ _ ?_; clear hK)
      refine WC.seq fun K hK => ?_
      refine WC.block ?_
      refine WC.seq fun K hK => ?_
      refine WC.region rfl ?_
      refine wG rfl rfl (g_move rfl (.mk (v := .slice _ _ _) rfl rfl)) ?_
      refine wG rfl rfl (g_move rfl (.mk (v := .int _ _) rfl rfl)) ?_
      refine wG rfl rfl (g_indexAddr (sz := 1) rfl (.mk rfl rfl) (.mk rfl rfl) rfl rfl (show _ = ((1 : Nat) : Int) from rfl) (by omega) (fun _ _ => rfl)) ?_
      refine wG rfl rfl (g_load rfl (.mk rfl rfl) rfl (rd_vec (.head _) rfl)) ?_
      refine wG rfl rfl (g_assign rfl (.mk (v := .int _ _) rfl rfl)) ?_
      refine WL.nil ?_
      (refine hK _ _ ?_; clear hK)
      refine WC.seq fun K hK => ?_
      refine WC.region rfl ?_
      refine wG rfl rfl (g_move rfl (.mk (v := .int _ _) rfl rfl)) ?_
      refine wG rfl rfl (g_move rfl (.mk (v := .int _ _) rfl rfl)) ?_
      refine wG rfl rfl (g_move rfl (.mk (v := .int _ _) rfl rfl)) ?_
      refine wG rfl rfl (g_mul rfl (.mk rfl rfl) (.mk rfl rfl) (IntWalk.i64_in _ (by omega))) ?_
      refine wG rfl rfl (g_move rfl (.mk (v := .int _ _) rfl rfl)) ?_
      refine wG rfl rfl (g_add rfl (.mk rfl rfl) (.mk rfl rfl) (IntWalk.i64_in _ (by omega))) ?_
      refine wG rfl rfl (g_add rfl (.mk rfl rfl) (.mk rfl rfl) (IntWalk.i64_in _ (by omega))) ?_
      refine wG rfl rfl (g_eq rfl (.mk rfl rfl) (.mk rfl rfl) (decide_eq_false (by omega))) ?_
      refine wG rfl rfl (g_move rfl (.mk (v := .bool _) rfl rfl)) ?_
      refine WL.skipG rfl rfl rfl rfl rfl rfl ?_
      refine WL.skipG rfl rfl rfl rfl rfl rfl ?_
      refine WL.skipG rfl rfl rfl rfl rfl rfl ?_
      refine WL.skipG rfl rfl rfl rfl rfl rfl ?_
      refine wG rfl rfl (g_pickF rfl (.mk rfl rfl) (.mk (v := .bool _) rfl rfl)) ?_
      refine WL.nil ?_
      (refine hK _ _ ?_; clear hK)
      refine WC.cond_false (.mk rfl rfl) ?_
      refine WC.skip ?_
      (refine hK _ _ ?_; clear hK)
      refine WC.region rfl ?_
      refine wG rfl rfl (g_move rfl (.mk (v := .int _ _) rfl rfl)) ?_
      refine wG rfl rfl (g_add rfl (.mk rfl rfl) (.mk rfl rfl) (IntWalk.i64_in _ (by omega))) ?_
      refine wG rfl rfl (g_assign rfl (.mk (v := .int _ _) rfl rfl)) ?_
      refine WL.nil ?_
      exact ⟨2, (by repeat (first | with_reducible exact Out.refl _ _ | refine Out.set rfl ?_ | refine Out.put rfl ?_ | refine Out.sets rfl ?_ | refine Out.hav rfl ?_ | exact Out.refl _ _)), ⟨rfl, trivial⟩, .refl _, by omega, by omega⟩
  · refine WC.seq fun K hK => ?_
    refine WC.seq fun K hK => ?_
    refine WC.region rfl ?_
    refine wG rfl rfl (g_move rfl (.mk (v := .int _ _) rfl rfl)) ?_
    refine wG rfl rfl (g_move rfl (.mk (v := .slice _ _ _) rfl rfl)) ?_
    refine wG rfl rfl (g_len rfl (.mk rfl rfl) rfl) ?_
    refine wG rfl rfl (g_lt rfl (.mk rfl rfl) (.mk rfl rfl) (decide_eq_true (by omega))) ?_
    refine WL.nil ?_
    (refine hK _ _ ?_; clear hK)
    refine WC.cond_true (.mk rfl rfl) ?_
    refine WC.skip ?_
    (refine hK _ _ ?_; clear hK)
    refine WC.seq fun K hK => ?_
    refine WC.block ?_
    refine WC.seq fun K hK => ?_
    refine WC.region rfl ?_
    refine wG rfl rfl (g_move rfl (.mk (v := .slice _ _ _) rfl rfl)) ?_
    refine wG rfl rfl (g_move rfl (.mk (v := .int _ _) rfl rfl)) ?_
    refine wG rfl rfl (g_indexAddr (sz := 1) rfl (.mk rfl rfl) (.mk rfl rfl) rfl rfl (show _ = ((2 : Nat) : Int) from rfl) (by omega) (fun _ _ => rfl)) ?_
    refine wG rfl rfl (g_load rfl (.mk rfl rfl) rfl (rd_vec (.head _) rfl)) ?_
    refine wG rfl rfl (g_assign rfl (.mk (v := .int _ _) rfl rfl)) ?_
    refine WL.nil ?_
    (refine hK _ _ ?_; clear hK)
    refine WC.seq fun K hK => ?_
    refine WC.region rfl ?_
    refine wG rfl rfl (g_move rfl (.mk (v := .int _ _) rfl rfl)) ?_
    refine wG rfl rfl (g_move rfl (.mk (v := .int _ _) rfl rfl)) ?_
    refine wG rfl rfl (g_move rfl (.mk (v := .int _ _) rfl rfl)) ?_
    refine wG rfl rfl (g_mul rfl (.mk rfl rfl) (.mk rfl rfl) (IntWalk.i64_in _ (by omega))) ?_
    refine wG rfl rfl (g_move rfl (.mk (v := .int _ _) rfl rfl)) ?_
    refine wG rfl rfl (g_add rfl (.mk rfl rfl) (.mk rfl rfl) (IntWalk.i64_in _ (by omega))) ?_
    refine wG rfl rfl (g_add rfl (.mk rfl rfl) (.mk rfl rfl) (IntWalk.i64_in _ (by omega))) ?_
    refine wG rfl rfl (g_eq rfl (.mk rfl rfl) (.mk rfl rfl) (decide_eq_false (by omega))) ?_
    refine wG rfl rfl (g_move rfl (.mk (v := .bool _) rfl rfl)) ?_
    refine WL.skipG rfl rfl rfl rfl rfl rfl ?_
    refine WL.skipG rfl rfl rfl rfl rfl rfl ?_
    refine WL.skipG rfl rfl rfl rfl rfl rfl ?_
    refine WL.skipG rfl rfl rfl rfl rfl rfl ?_
    refine wG rfl rfl (g_pickF rfl (.mk rfl rfl) (.mk (v := .bool _) rfl rfl)) ?_
    refine WL.nil ?_
    (refine hK _ _ ?_; clear hK)
    refine WC.cond_false (.mk rfl rfl) ?_
    refine WC.skip ?_
    (refine hK _ _ ?_; clear hK)
    refine WC.region rfl ?_
    refine wG rfl rfl (g_move rfl (.mk (v := .int _ _) rfl rfl)) ?_
    refine wG rfl rfl (g_add rfl (.mk rfl rfl) (.mk rfl rfl) (IntWalk.i64_in _ (by omega))) ?_
    refine wG rfl rfl (g_assign rfl (.mk (v := .int _ _) rfl rfl)) ?_
    refine WL.nil ?_
    exact ⟨3, (by repeat (first | with_reducible exact Out.refl _ _ | refine Out.set rfl ?_ | refine Out.put rfl ?_ | refine Out.sets rfl ?_ | refine Out.hav rfl ?_ | exact Out.refl _ _)), ⟨rfl, trivial⟩, .refl _, by omega, by omega⟩
  · refine WC.seq fun K hK => ?_
    refine WC.seq fun K hK => ?_
    refine WC.region rfl ?_
    refine wG rfl rfl (g_move rfl (.mk (v := .int _ _) rfl rfl)) ?_
    refine wG rfl rfl (g_move rfl (.mk (v := .slice _ _ _) rfl rfl)) ?_
    refine wG rfl rfl (g_len rfl (.mk rfl rfl) rfl) ?_
    refine wG rfl rfl (g_lt rfl (.mk rfl rfl) (.mk rfl rfl) (decide_eq_true (by omega))) ?_
    refine WL.nil ?_
    (refine hK _ _ ?_; clear hK)
    refine WC.cond_true (.mk rfl rfl) ?_
    refine WC.skip ?_
    (refine hK _ _ ?_; clear hK)
    refine WC.seq fun K hK => ?_
    refine WC.block ?_
    refine WC.seq fun K hK => ?_
    refine WC.region rfl ?_
    refine wG rfl rfl (g_move rfl (.mk (v := .slice _ _ _) rfl rfl)) ?_
    refine wG rfl rfl (g_move rfl (.mk (v := .int _ _) rfl rfl)) ?_
    refine wG rfl rfl (g_indexAddr (sz := 1) rfl (.mk rfl rfl) (.mk rfl rfl) rfl rfl (show _ = ((3 : Nat) : Int) from rfl) (by omega) (fun _ _ => rfl)) ?_
    refine wG rfl rfl (g_load rfl (.mk rfl rfl) rfl (rd_vec (.head _) rfl)) ?_
    refine wG rfl rfl (g_assign rfl (.mk (v := .int _ _) rfl rfl)) ?_
    refine WL.nil ?_
    (refine hK _ _ ?_; clear hK)
    refine WC.seq fun K hK => ?_
    refine WC.region rfl ?_
    refine wG rfl rfl (g_move rfl (.mk (v := .int _ _) rfl rfl)) ?_
    refine wG rfl rfl (g_move rfl (.mk (v := .int _ _) rfl rfl)) ?_
    refine wG rfl rfl (g_move rfl (.mk (v := .int _ _) rfl rfl)) ?_
    refine wG rfl rfl (g_mul rfl (.mk rfl rfl) (.mk rfl rfl) (IntWalk.i64_in _ (by omega))) ?_
    refine wG rfl rfl (g_move rfl (.mk (v := .int _ _) rfl rfl)) ?_
    refine wG rfl rfl (g_add rfl (.mk rfl rfl) (.mk rfl rfl) (IntWalk.i64_in _ (by omega))) ?_
    refine wG rfl rfl (g_add rfl (.mk rfl rfl) (.mk rfl rfl) (IntWalk.i64_in _ (by omega))) ?_
    refine wG rfl rfl (g_eq rfl (.mk rfl rfl) (.mk rfl rfl) (decide_eq_false (by omega))) ?_
    refine wG rfl rfl (g_move rfl (.mk (v := .bool _) rfl rfl)) ?_
    refine WL.skipG rfl rfl rfl rfl rfl rfl ?_
    refine WL.skipG rfl rfl rfl rfl rfl rfl ?_
    refine WL.skipG rfl rfl rfl rfl rfl rfl ?_
    refine WL.skipG rfl rfl rfl rfl rfl rfl ?_
    refine wG rfl rfl (g_pickF rfl (.mk rfl rfl) (.mk (v := .bool _) rfl rfl)) ?_
    refine WL.nil ?_
    (refine hK _ _ ?_; clear hK)
    refine WC.cond_false (.mk rfl rfl) ?_
    refine WC.skip ?_
    (refine hK _ _ ?_; clear hK)
    refine WC.region rfl ?_
    refine wG rfl rfl (g_move rfl (.mk (v := .int _ _) rfl rfl)) ?_
    refine wG rfl rfl (g_add rfl (.mk rfl rfl) (.mk rfl rfl) (IntWalk.i64_in _ (by omega))) ?_
    refine wG rfl rfl (g_assign rfl (.mk (v := .int _ _) rfl rfl)) ?_
    refine WL.nil ?_
    exact ⟨4, (by repeat (first | with_reducible exact Out.refl _ _ | refine Out.set rfl ?_ | refine Out.put rfl ?_ | refine Out.sets rfl ?_ | refine Out.hav rfl ?_ | exact Out.refl _ _)), ⟨rfl, trivial⟩, .refl _, by omega, by omega⟩
  · refine WC.seq fun K hK => ?_
    refine WC.seq fun K hK => ?_
    refine WC.region rfl ?_
    refine wG rfl rfl (g_move rfl (.mk (v := .int _ _) rfl rfl)) ?_
    refine wG rfl rfl (g_move rfl (.mk (v := .slice _ _ _) rfl rfl)) ?_
    refine wG rfl rfl (g_len rfl (.mk rfl rfl) rfl) ?_
    refine wG rfl rfl (g_lt rfl (.mk rfl rfl) (.mk rfl rfl) (decide_eq_true (by omega))) ?_
    refine WL.nil ?_
    (refine hK _ _ ?_; clear hK)
    refine WC.cond_true (.mk rfl rfl) ?_
    refine WC.skip ?_
    (refine hK _ _ ?_; clear hK)
    refine WC.seq fun K hK => ?_
    refine WC.block ?_
    refine WC.seq fun K hK => ?_
    refine WC.region rfl ?_
    refine wG rfl rfl (g_move rfl (.mk (v := .slice _ _ _) rfl rfl)) ?_
    refine wG rfl rfl (g_move rfl (.mk (v := .int _ _) rfl rfl)) ?_
    refine wG rfl rfl (g_indexAddr (sz := 1) rfl (.mk rfl rfl) (.mk rfl rfl) rfl rfl (show _ = ((4 : Nat) : Int) from rfl) (by omega) (fun _ _ => rfl)) ?_
    refine wG rfl rfl (g_load rfl (.mk rfl rfl) rfl (rd_vec (.head _) rfl)) ?_
    refine wG rfl rfl (g_assign rfl (.mk (v := .int _ _) rfl rfl)) ?_
    refine WL.nil ?_
    (refine hK _ _ ?_; clear hK)
    refine WC.seq fun K hK => ?_
    refine WC.region rfl ?_
    refine wG rfl rfl (g_move rfl (.mk (v := .int _ _) rfl rfl)) ?_
    refine wG rfl rfl (g_move rfl (.mk (v := .int _ _) rfl rfl)) ?_
    refine wG rfl rfl (g_move rfl (.mk (v := .int _ _) rfl rfl)) ?_
    refine wG rfl rfl (g_mul rfl (.mk rfl rfl) (.mk rfl rfl) (IntWalk.i64_in _ (by omega))) ?_
    refine wG rfl rfl (g_move rfl (.mk (v := .int _ _) rfl rfl)) ?_
    refine wG rfl rfl (g_add rfl (.mk rfl rfl) (.mk rfl rfl) (IntWalk.i64_in _ (by omega))) ?_
    refine wG rfl rfl (g_add rfl (.mk rfl rfl) (.mk rfl rfl) (IntWalk.i64_in _ (by omega))) ?_
    refine wG rfl rfl (g_eq rfl (.mk rfl rfl) (.mk rfl rfl) (decide_eq_false (by omega))) ?_
    refine wG rfl rfl (g_move rfl (.mk (v := .bool _) rfl rfl)) ?_
    refine WL.skipG rfl rfl rfl rfl rfl rfl ?_
    refine WL.skipG rfl rfl rfl rfl rfl rfl ?_
    refine WL.skipG rfl rfl rfl rfl rfl rfl ?_
    refine WL.skipG rfl rfl rfl rfl rfl rfl ?_
    refine wG rfl rfl (g_pickF rfl (.mk rfl rfl) (.mk (v := .bool _) rfl rfl)) ?_
    refine WL.nil ?_
    (refine hK _ _ ?_; clear hK)
    refine WC.cond_false (.mk rfl rfl) ?_
    refine WC.skip ?_
    (refine hK _ _ ?_; clear hK)
    refine WC.region rfl ?_
    refine wG rfl rfl (g_move rfl (.mk (v := .int _ _) rfl rfl)) ?_
    refine wG rfl rfl (g_add rfl (.mk rfl rfl) (.mk rfl rfl) (IntWalk.i64_in _ (by omega))) ?_
    refine wG rfl rfl (g_assign rfl (.mk (v := .int _ _) rfl rfl)) ?_
    refine WL.nil ?_
    exact ⟨5, (by repeat (first | with_reducible exact Out.refl _ _ | refine Out.set rfl ?_ | refine Out.put rfl ?_ | refine Out.sets rfl ?_ | refine Out.hav rfl ?_ | exact Out.refl _ _)), ⟨rfl, trivial⟩, .refl _, by omega, by omega⟩
  · refine WC.seq fun K hK => ?_
    refine WC.seq fun K hK => ?_
    refine WC.region rfl ?_
    refine wG rfl rfl (g_move rfl (.mk (v := .int _ _) rfl rfl)) ?_
    refine wG rfl rfl (g_move rfl (.mk (v := .slice _ _ _) rfl rfl)) ?_
    refine wG rfl rfl (g_len rfl (.mk rfl rfl) rfl) ?_
    refine wG rfl rfl (g_lt rfl (.mk rfl rfl) (.mk rfl rfl) (decide_eq_false (by omega))) ?_
    refine WL.nil ?_
    (refine hK _ _ ?_; clear hK)
    refine WC.cond_false (.mk rfl rfl) ?_
    refine WC.exit ?_
    (clear hK; refine hK _ _ ?_; clear hK)
    refine WC.seq fun K hK => ?_
    refine WC.seq fun K hK => ?_
    refine WC.region rfl ?_
    refine wG rfl rfl (g_assign rfl (.mk (v := .int _ _) rfl rfl)) ?_
    refine WL.nil ?_
    (refine hK _ _ ?_; clear hK)
    refine WC.block ?_
    refine WC.loop (75557845711515813938720) (fun i : Nat => [(9, iv i)]) (fun _ => [vec (some ⟨b27, 0, none⟩) 5 5 3 1 [iv 2, iv 3, iv 4, iv 5, iv 7], pt b4 DT [iv 0, .slice none 0 0]]) (fun i => i ≤ 5) (fun i => 5 - i) 0 ⟨rfl, trivial⟩ (.refl _) (by omega) ?_
    intro i U hi
    obtain rfl | rfl | rfl | rfl | rfl | rfl : i = 0 ∨ i = 1 ∨ i = 2 ∨ i = 3 ∨ i = 4 ∨ i = 5 := by omega
    · refine WC.seq fun K hK => ?_
      refine WC.seq fun K hK => ?_
      refine WC.region rfl ?_
      refine wG rfl rfl (g_move rfl (.mk (v := .int _ _) rfl rfl)) ?_
      refine wG rfl rfl (g_move rfl (.mk (v := .slice _ _ _) rfl rfl)) ?_
      refine wG rfl rfl (g_len rfl (.mk rfl rfl) rfl) ?_
      refine wG rfl rfl (g_lt rfl (.mk rfl rfl) (.mk rfl rfl) (decide_eq_true (by omega))) ?_
      refine WL.nil ?_
      (refine hK _ _ ?_; clear hK)
      refine WC.cond_true (.mk rfl rfl) ?_
      refine WC.skip ?_
      (refine hK _ _ ?_; clear hK)
      refine WC.seq fun K hK => ?_
      refine WC.block ?_
      refine WC.seq fun K hK => ?_
      refine WC.region rfl ?_
      refine wG rfl rfl (g_move rfl (.mk (v := .slice _ _ _) rfl rfl)) ?_
      refine wG rfl rfl (g_move rfl (.mk (v := .int _ _) rfl rfl)) ?_
      refine wG rfl rfl (g_indexAddr (sz := 1) rfl (.mk rfl rfl) (.mk rfl rfl) rfl rfl (show _ = ((0 : Nat) : Int) from rfl) (by omega) (fun _ _ => rfl)) ?_
      refine wG rfl rfl (g_load rfl (.mk rfl rfl) rfl (rd_vec (.head _) rfl)) ?_
      refine wG rfl rfl (g_assign rfl (.mk (v := .int _ _) rfl rfl)) ?_
      refine WL.nil ?_
      (refine hK _ _ ?_; clear hK)
      refine WC.seq fun K hK => ?_
      refine WC.region rfl ?_
      refine wG rfl rfl (g_move rfl (.mk (v := .int _ _) rfl rfl)) ?_
      refine wG rfl rfl (g_move rfl (.mk (v := .int _ _) rfl rfl)) ?_
      refine wG rfl rfl (g_move rfl (.mk (v := .int _ _) rfl rfl)) ?_
      refine wG rfl rfl (g_mul rfl (.mk rfl rfl) (.mk rfl rfl) (IntWalk.i64_in _ (by omega))) ?_
      refine wG rfl rfl (g_eq rfl (.mk rfl rfl) (.mk rfl rfl) (decide_eq_false (by omega))) ?_
      refine wG rfl rfl (g_move rfl (.mk (v := .bool _) rfl rfl)) ?_
      refine WL.skipG rfl rfl rfl rfl rfl rfl ?_
      refine WL.skipG rfl rfl rfl rfl rfl rfl ?_
      refine WL.skipG rfl rfl rfl rfl rfl rfl ?_
      refine wG rfl rfl (g_pickF rfl (.mk rfl rfl) (.mk (v := .bool _) rfl rfl)) ?_
      refine WL.nil ?_
      (refine hK _ _ ?_; clear hK)
      refine WC.cond_false (.mk rfl rfl) ?_
      refine WC.skip ?_
      (refine hK _ _ ?_; clear hK)
      refine WC.region rfl ?_
      refine wG rfl rfl (g_move rfl (.mk (v := .int _ _) rfl rfl)) ?_
      refine wG rfl rfl (g_add rfl (.mk rfl rfl) (.mk rfl rfl) (IntWalk.i64_in _ (by omega))) ?_
      refine wG rfl rfl (g_assign rfl (.mk (v := .int _ _) rfl rfl)) ?_
      refine WL.nil ?_
      exact ⟨1, (by repeat (first | with_reducible exact Out.refl _ _ | refine Out.set rfl ?_ | refine Out.put rfl ?_ | refine Out.sets rfl ?_ | refine Out.hav rfl ?_ | exact Out.refl _ _)), ⟨rfl, trivial⟩, .refl _, by omega, by omega⟩
    · by_cases h9 : v = 9
      · refine WC.seq fun K hK => ?_
        refine WC.seq fun K hK => ?_
        refine WC.region rfl ?_
        refine wG rfl rfl (g_move rfl (.mk (v := .int _ _) rfl rfl)) ?_
        refine wG rfl rfl (g_move rfl (.mk (v := .slice _ _ _) rfl rfl)) ?_
        refine wG rfl rfl (g_len rfl (.mk rfl rfl) rfl) ?_
        refine wG rfl rfl (g_lt rfl (.mk rfl rfl) (.mk rfl rfl) (decide_eq_true (by omega))) ?_
        refine WL.nil ?_
        (refine hK _ _ ?_; clear hK)
        refine WC.cond_true (.mk rfl rfl) ?_
        refine WC.skip ?_
        (refine hK _ _ ?_; clear hK)
        refine WC.seq fun K hK => ?_
        refine WC.block ?_
        refine WC.seq fun K hK => ?_
        refine WC.region rfl ?_
        refine wG rfl rfl (g_move rfl (.mk (v := .slice _ _ _) rfl rfl)) ?_
        refine wG rfl rfl (g_move rfl (.mk (v := .int _ _) rfl rfl)) ?_
        refine wG rfl rfl (g_indexAddr (sz := 1) rfl (.mk rfl rfl) (.mk rfl rfl) rfl rfl (show _ = ((1 : Nat) : Int) from rfl) (by omega) (fun _ _ => rfl)) ?_
        refine wG rfl rfl (g_load rfl (.mk rfl rfl) rfl (rd_vec (.head _) rfl)) ?_
        refine wG rfl rfl (g_assign rfl (.mk (v := .int _ _) rfl rfl)) ?_
        refine WL.nil ?_
        (refine hK _ _ ?_; clear hK)
        refine WC.seq fun K hK => ?_
        refine WC.region rfl ?_
        refine wG rfl rfl (g_move rfl (.mk (v := .int _ _) rfl rfl)) ?_
        refine wG rfl rfl (g_move rfl (.mk (v := .int _ _) rfl rfl)) ?_
        refine wG rfl rfl (g_move rfl (.mk (v := .int _ _) rfl rfl)) ?_
        refine wG rfl rfl (g_mul rfl (.mk rfl rfl) (.mk rfl rfl) (IntWalk.i64_in _ (by omega))) ?_
        refine wG rfl rfl (g_eq rfl (.mk rfl rfl) (.mk rfl rfl) (decide_eq_true (by omega))) ?_
        refine wG rfl rfl (g_move rfl (.mk (v := .bool _) rfl rfl)) ?_
        refine WL.wantG rfl rfl rfl rfl (WL1.give rfl (g_move rfl (.mk (v := .int _ _) rfl rfl)) ?_)
        refine WL.wantG rfl rfl rfl rfl (WL1.give rfl (g_move rfl (.mk (v := .int _ _) rfl rfl)) ?_)
        refine WL.wantG rfl rfl rfl rfl (WL1.give rfl (g_eq rfl (.mk rfl rfl) (.mk rfl rfl) (decide_eq_false (by omega))) ?_)
        refine wG rfl rfl (g_pickT rfl (.mk rfl rfl) (.mk (v := .bool _) rfl rfl)) ?_
        refine WL.nil ?_
        (refine hK _ _ ?_; clear hK)
        refine WC.cond_false (.mk rfl rfl) ?_
        refine WC.skip ?_
        (refine hK _ _ ?_; clear hK)
        refine WC.region rfl ?_
        refine wG rfl rfl (g_move rfl (.mk (v := .int _ _) rfl rfl)) ?_
        refine wG rfl rfl (g_add rfl (.mk rfl rfl) (.mk rfl rfl) (IntWalk.i64_in _ (by omega))) ?_
        refine wG rfl rfl (g_assign rfl (.mk (v := .int _ _) rfl rfl)) ?_
        refine WL.nil ?_
        exact ⟨2, (by repeat (first | with_reducible exact Out.refl _ _ | refine Out.set rfl ?_ | refine Out.put rfl ?_ | refine Out.sets rfl ?_ | refine Out.hav rfl ?_ | exact Out.refl _ _)), ⟨rfl, trivial⟩, .refl _, by omega, by omega⟩
      · refine WC.seq fun K hK => ?_
        refine WC.seq fun K hK => ?_
        refine WC.region rfl ?_
        refine wG rfl rfl (g_move rfl (.mk (v := .int _ _) rfl rfl)) ?_
        refine wG rfl rfl (g_move rfl (.mk (v := .slice _ _ _) rfl rfl)) ?_
        refine wG rfl rfl (g_len rfl (.mk rfl rfl) rfl) ?_
        refine wG rfl rfl (g_lt rfl (.mk rfl rfl) (.mk rfl rfl) (decide_eq_true (by omega))) ?_
        refine WL.nil ?_
        (refine hK _ _ ?_; clear hK)
        refine WC.cond_true (.mk rfl rfl) ?_
        refine WC.skip ?_
        (refine hK _ _ ?_; clear hK)
        refine WC.seq fun K hK => ?_
        refine WC.block ?_
        refine WC.seq fun K hK => ?_
        refine WC.region rfl ?_
        refine wG rfl rfl (g_move rfl (.mk (v := .slice _ _ _) rfl rfl)) ?_
        refine wG rfl rfl (g_move rfl (.mk (v := .int _ _) rfl rfl)) ?_
        refine wG rfl rfl (g_indexAddr (sz := 1) rfl (.mk rfl rfl) (.mk rfl rfl) rfl rfl (show _ = ((1 : Nat) : Int) from rfl) (by omega) (fun _ _ => rfl)) ?_
        refine wG rfl rfl (g_load rfl (.mk rfl rfl) rfl (rd_vec (.head _) rfl)) ?_
        refine wG rfl rfl (g_assign rfl (.mk (v := .int _ _) rfl rfl)) ?_
        refine WL.nil ?_
        (refine hK _ _ ?_; clear hK)
        refine WC.seq fun K hK => ?_
        refine WC.region rfl ?_
        refine wG rfl rfl (g_move rfl (.mk (v := .int _ _) rfl rfl)) ?_
        refine wG rfl rfl (g_move rfl (.mk (v := .int _ _) rfl rfl)) ?_
        refine wG rfl rfl (g_move rfl (.mk (v := .int _ _) rfl rfl)) ?_
        refine wG rfl rfl (g_mul rfl (.mk rfl rfl) (.mk rfl rfl) (IntWalk.i64_in _ (by omega))) ?_
        refine wG rfl rfl (g_eq rfl (.mk rfl rfl) (.mk rfl rfl) (decide_eq_false (by omega))) ?_
        refine wG rfl rfl (g_move rfl (.mk (v := .bool _) rfl rfl)) ?_
        refine WL.skipG rfl rfl rfl rfl rfl rfl ?_
        refine WL.skipG rfl rfl rfl rfl rfl rfl ?_
        refine WL.skipG rfl rfl rfl rfl rfl rfl ?_
        refine wG rfl rfl (g_pickF rfl (.mk rfl rfl) (.mk (v := .bool _) rfl rfl)) ?_
        refine WL.nil ?_
        (refine hK _ _ ?_; clear hK)
        refine WC.cond_false (.mk rfl rfl) ?_
        refine WC.skip ?_
        (refine hK _ _ ?_; clear hK)
        refine WC.region rfl ?_
        refine wG rfl rfl (g_move rfl (.mk (v := .int _ _) rfl rfl)) ?_
        refine wG rfl rfl (g_add rfl (.mk rfl rfl) (.mk rfl rfl) (IntWalk.i64_in _ (by omega))) ?_
        refine wG rfl rfl (g_assign rfl (.mk (v := .int _ _) rfl rfl)) ?_
        refine WL.nil ?_
        exact ⟨2, (by repeat (first | with_reducible exact Out.refl _ _ | refine Out.set rfl ?_ | refine Out.put rfl ?_ | refine Out.sets rfl ?_ | refine Out.hav rfl ?_ | exact Out.refl _ _)), ⟨rfl, trivial⟩, .refl _, by omega, by omega⟩
    · refine WC.seq fun K hK => ?_
      refine WC.seq fun K hK => ?_
      refine WC.region rfl ?_
      refine wG rfl rfl (g_move rfl (.mk (v := .int _ _) rfl rfl)) ?_
      refine wG rfl rfl (g_move rfl (.mk (v := .slice _ _ _) rfl rfl)) ?_
      refine wG rfl rfl (g_len rfl (.mk rfl rfl) rfl) ?_
      refine wG rfl rfl (g_lt rfl (.mk rfl rfl) (.mk rfl rfl) (decide_eq_true (by omega))) ?_
      refine WL.nil ?_
      (refine hK _ _ ?_; clear hK)
      refine WC.cond_true (.mk rfl rfl) ?_
      refine WC.skip ?_
      (refine hK _ _ ?_; clear hK)
      refine WC.seq fun K hK => ?_
      refine WC.block ?_
      refine WC.seq fun K hK => ?_
      refine WC.region rfl ?_
      refine wG rfl rfl (g_move rfl (.mk (v := .slice _ _ _) rfl rfl)) ?_
      refine wG rfl rfl (g_move rfl (.mk (v := .int _ _) rfl rfl)) ?_
      refine wG rfl rfl (g_indexAddr (sz := 1) rfl (.mk rfl rfl) (.mk rfl rfl) rfl rfl (show _ = ((2 : Nat) : Int) from rfl) (by omega) (fun _ _ => rfl)) ?_
      refine wG rfl rfl (g_load rfl (.mk rfl rfl) rfl (rd_vec (.head _) rfl)) ?_
      refine wG rfl rfl (g_assign rfl (.mk (v := .int _ _) rfl rfl)) ?_
      refine WL.nil ?_
      (refine hK _ _ ?_; clear hK)
      refine WC.seq fun K hK => ?_
      refine WC.region rfl ?_
      refine wG rfl rfl (g_move rfl (.mk (v := .int _ _) rfl rfl)) ?_
      refine wG rfl rfl (g_move rfl (.mk (v := .int _ _) rfl rfl)) ?_
      refine wG rfl rfl (g_move rfl (.mk (v := .int _ _) rfl rfl)) ?_
      refine wG rfl rfl (g_mul rfl (.mk rfl rfl) (.mk rfl rfl) (IntWalk.i64_in _ (by omega))) ?_
      refine wG rfl rfl (g_eq rfl (.mk rfl rfl) (.mk rfl rfl) (decide_eq_false (by omega))) ?_
      refine wG rfl rfl (g_move rfl (.mk (v := .bool _) rfl rfl)) ?_
      refine WL.skipG rfl rfl rfl rfl rfl rfl ?_
      refine WL.skipG rfl rfl rfl rfl rfl rfl ?_
      refine WL.skipG rfl rfl rfl rfl rfl rfl ?_
      refine wG rfl rfl (g_pickF rfl (.mk rfl rfl) (.mk (v := .bool _) rfl rfl)) ?_
      refine WL.nil ?_
      (refine hK _ _ ?_; clear hK)
      refine WC.cond_false (.mk rfl rfl) ?_
      refine WC.skip ?_
      (refine hK _ _ ?_; clear hK)
      refine WC.region rfl ?_
      refine wG rfl rfl (g_move rfl (.mk (v := .int _ _) rfl rfl)) ?_
      refine wG rfl rfl (g_add rfl (.mk rfl rfl) (.mk rfl rfl) (IntWalk.i64_in _ (by omega))) ?_
      refine wG rfl rfl (g_assign rfl (.mk (v := .int _ _) rfl rfl)) ?_
      refine WL.nil ?_
      exact ⟨3, (by repeat (first | with_reducible exact Out.refl _ _ | refine Out.set rfl ?_ | refine Out.put rfl ?_ | refine Out.sets rfl ?_ | refine Out.hav rfl ?_ | exact Out.refl _ _)), ⟨rfl, trivial⟩, .refl _, by omega, by omega⟩
    · refine WC.seq fun K hK => ?_
      refine WC.seq fun K hK => ?_
      refine WC.region rfl ?_
      refine wG rfl rfl (g_move rfl (.mk (v := .int _ _) rfl rfl)) ?_
      refine wG rfl rfl (g_move rfl (.mk (v := .slice _ _ _) rfl rfl)) ?_
      refine wG rfl rfl (g_len rfl (.mk rfl rfl) rfl) ?_
      refine wG rfl rfl (g_lt rfl (.mk rfl rfl) (.mk rfl rfl) (decide_eq_true (by omega))) ?_
      refine WL.nil ?_
      (refine hK _ _ ?_; clear hK)
      refine WC.cond_true (.mk rfl rfl) ?_
      refine WC.skip ?_
      (refine hK _ _ ?_; clear hK)
      refine WC.seq fun K hK => ?_
      refine WC.block ?_
      refine WC.seq fun K hK => ?_
      refine WC.region rfl ?_
      refine wG rfl rfl (g_move rfl (.mk (v := .slice _ _ _) rfl rfl)) ?_
      refine wG rfl rfl (g_move rfl (.mk (v := .int _ _) rfl rfl)) ?_
      refine wG rfl rfl (g_indexAddr (sz := 1) rfl (.mk rfl rfl) (.mk rfl rfl) rfl rfl (show _ = ((3 : Nat) : Int) from rfl) (by omega) (fun _ _ => rfl)) ?_
      refine wG rfl rfl (g_load rfl (.mk rfl rfl) rfl (rd_vec (.head _) rfl)) ?_
      refine wG rfl rfl (g_assign rfl (.mk (v := .int _ _) rfl rfl)) ?_
      refine WL.nil ?_
      (refine hK _ _ ?_; clear hK)
      refine WC.seq fun K hK => ?_
      refine WC.region rfl ?_
      refine wG rfl rfl (g_move rfl (.mk (v := .int _ _) rfl rfl)) ?_
      refine wG rfl rfl (g_move rfl (.mk (v := .int _ _) rfl rfl)) ?_
      refine wG rfl rfl (g_move rfl (.mk (v := .int _ _) rfl rfl)) ?_
      refine wG rfl rfl (g_mul rfl (.mk rfl rfl) (.mk rfl rfl) (IntWalk.i64_in _ (by omega))) ?_
      refine wG rfl rfl (g_eq rfl (.mk rfl rfl) (.mk rfl rfl) (decide_eq_false (by omega))) ?_
      refine wG rfl rfl (g_move rfl (.mk (v := .bool _) rfl rfl)) ?_
      refine WL.skipG rfl rfl rfl rfl rfl rfl ?_
      refine WL.skipG rfl rfl rfl rfl rfl rfl ?_
      refine WL.skipG rfl rfl rfl rfl rfl rfl ?_
      refine wG rfl rfl (g_pickF rfl (.mk rfl rfl) (.mk (v := .bool _) rfl rfl)) ?_
      refine WL.nil ?_
      (refine hK _ _ ?_; clear hK)
      refine WC.cond_false (.mk rfl rfl) ?_
      refine WC.skip ?_
      (refine hK _ _ ?_; clear hK)
      refine WC.region rfl ?_
      refine wG rfl rfl (g_move rfl (.mk (v := .int _ _) rfl rfl)) ?_
      refine wG rfl rfl (g_add rfl (.mk rfl rfl) (.mk rfl rfl) (IntWalk.i64_in _ (by omega))) ?_
      refine wG rfl rfl (g_assign rfl (.mk (v := .int _ _) rfl rfl)) ?_
      refine WL.nil ?_
      exact ⟨4, (by repeat (first | with_reducible exact Out.refl _ _ | refine Out.set rfl ?_ | refine Out.put rfl ?_ | refine Out.sets rfl ?_ | refine Out.hav rfl ?_ | exact Out.refl _ _)), ⟨rfl, trivial⟩, .refl _, by omega, by omega⟩
    · refine WC.seq fun K hK => ?_
      refine WC.seq fun K hK => ?_
      refine WC.region rfl ?_
      refine wG rfl rfl (g_move rfl (.mk (v := .int _ _) rfl rfl)) ?_
      refine wG rfl rfl (g_move rfl (.mk (v := .slice _ _ _) rfl rfl)) ?_
      refine wG rfl rfl (g_len rfl (.mk rfl rfl) rfl) ?_
      refine wG rfl rfl (g_lt rfl (.mk rfl rfl) (.mk rfl rfl) (decide_eq_true (by omega))) ?_
      refine WL.nil ?_
      (refine hK _ _ ?_; clear hK)
      refine WC.cond_true (.mk rfl rfl) ?_
      refine WC.skip ?_
      (refine hK _ _ ?_; clear hK)
      refine WC.seq fun K hK => ?_
      refine WC.block ?_
      refine WC.seq fun K hK => ?_
      refine WC.region rfl ?_
      refine wG rfl rfl (g_move rfl (.mk (v := .slice _ _ _) rfl rfl)) ?_
      refine wG rfl rfl (g_move rfl (.mk (v := .int _ _) rfl rfl)) ?_
      refine wG rfl rfl (g_indexAddr (sz := 1) rfl (.mk rfl rfl) (.mk rfl rfl) rfl rfl (show _ = ((4 : Nat) : Int) from rfl) (by omega) (fun _ _ => rfl)) ?_
      refine wG rfl rfl (g_load rfl (.mk rfl rfl) rfl (rd_vec (.head _) rfl)) ?_
      refine wG rfl rfl (g_assign rfl (.mk (v := .int _ _) rfl rfl)) ?_
      refine WL.nil ?_
      (refine hK _ _ ?_; clear hK)
      refine WC.seq fun K hK => ?_
      refine WC.region rfl ?_
      refine wG rfl rfl (g_move rfl (.mk (v := .int _ _) rfl rfl)) ?_
      refine wG rfl rfl (g_move rfl (.mk (v := .int _ _) rfl rfl)) ?_
      refine wG rfl rfl (g_move rfl (.mk (v := .int _ _) rfl rfl)) ?_
      refine wG rfl rfl (g_mul rfl (.mk rfl rfl) (.mk rfl rfl) (IntWalk.i64_in _ (by omega))) ?_
      refine wG rfl rfl (g_eq rfl (.mk rfl rfl) (.mk rfl rfl) (decide_eq_false (by omega))) ?_
      refine wG rfl rfl (g_move rfl (.mk (v := .bool _) rfl rfl)) ?_
      refine WL.skipG rfl rfl rfl rfl rfl rfl ?_
      refine WL.skipG rfl rfl rfl rfl rfl rfl ?_
      refine WL.skipG rfl rfl rfl rfl rfl rfl ?_
      refine wG rfl rfl (g_pickF rfl (.mk rfl rfl) (.mk (v := .bool _) rfl rfl)) ?_
      refine WL.nil ?_
      (refine hK _ _ ?_; clear hK)
      refine WC.cond_false (.mk rfl rfl) ?_
      refine WC.skip ?_
      (refine hK _ _ ?_; clear hK)
      refine WC.region rfl ?_
      refine wG rfl rfl (g_move rfl (.mk (v := .int _ _) rfl rfl)) ?_
      refine wG rfl rfl (g_add rfl (.mk rfl rfl) (.mk rfl rfl) (IntWalk.i64_in _ (by omega))) ?_
      refine wG rfl rfl (g_assign rfl (.mk (v := .int _ _) rfl rfl)) ?_
      refine WL.nil ?_
      exact ⟨5, (by repeat (first | with_reducible exact Out.refl _ _ | refine Out.set rfl ?_ | refine Out.put rfl ?_ | refine Out.sets rfl ?_ | refine Out.hav rfl ?_ | exact Out.refl _ _)), ⟨rfl, trivial⟩, .refl _, by omega, by omega⟩
    · refine WC.seq fun K hK => ?_
      refine WC.seq fun K hK => ?_
      refine WC.region rfl ?_
      refine wG rfl rfl (g_move rfl (.mk (v := .int _ _) rfl rfl)) ?_
      refine wG rfl rfl (g_move rfl (.mk (v := .slice _ _ _) rfl rfl)) ?_
      refine wG rfl rfl (g_len rfl (.mk rfl rfl) rfl) ?_
      refine wG rfl rfl (g_lt rfl (.mk rfl rfl) (.mk rfl rfl) (decide_eq_false (by omega))) ?_
      refine WL.nil ?_
      (refine hK _ _ ?_; clear hK)
      refine WC.cond_false (.mk rfl rfl) ?_
      refine WC.exit ?_
      (clear hK; refine hK _ _ ?_; clear hK)
      refine WC.seq fun K hK => ?_
      refine WC.seq fun K hK => ?_
      refine WC.region rfl ?_
      refine wG rfl rfl (g_move rfl (.mk (v := .int _ _) rfl rfl)) ?_
      refine wG rfl rfl (g_move rfl (.mk (v := .int _ _) rfl rfl)) ?_
      refine WL.want rfl (WL1.callP rfl rfl rfl (.cons (.mk (v := .int _ _) rfl rfl) (.cons (.mk (v := .int _ _) rfl rfl) .nil)) (fun w hw => hct w) ?_)
      refine wG rfl rfl (g_gt rfl (.mk rfl rfl) (.mk rfl rfl) (decide_eq_false (by omega))) ?_
      refine WL.nil ?_
      (refine hK _ _ ?_; clear hK)
      refine WC.cond_false (.mk rfl rfl) ?_
      refine WC.skip ?_
      (refine hK _ _ ?_; clear hK)
      refine WC.seq fun K hK => ?_
      refine WC.region rfl ?_
      refine wG rfl rfl (g_move rfl (.mk (v := .int _ _) rfl rfl)) ?_
      refine wG rfl rfl (g_move rfl (.mk (v := .int _ _) rfl rfl)) ?_
      (refine WL.want rfl (WL1.callN rfl rfl rfl (.cons (.mk (v := .int _ _) rfl rfl) (.cons (.mk (v := .int _ _) rfl rfl) .nil)) (fun w hw => hcp w) ?_); rintro _ _ ⟨A, c, rfl, rfl⟩)
      refine WL.want rfl (WL1.storeAll rfl rfl (.mk rfl rfl) (.mk rfl rfl) rfl (all1 rfl) (by first | rfl | (simp [Blk.len]; done)) (.tail (.head)) ?_)
      refine wG rfl rfl (g_assign rfl (.mk (v := .int _ _) rfl rfl)) ?_
      refine WL.nil ?_
      (refine hK _ _ ?_; clear hK)
      refine WC.ret ?_
      exact ⟨_, .cell rfl rfl rfl rfl (by first | ((repeat (first | exact .head _ | apply List.Mem.tail)); done) | fail) (.tmp rfl rfl .nil), fun w' hw' => ⟨_, _, rfl, hw'.sub (List.nil_sublist _), A, c, rfl, rfl⟩⟩
theorem rchoose_arg (v k : Nat) (w : World) (h : v < k) (h4 : 4 ≤ k) (h16 : k ≤ 16) :
    Calls Try.prog 33 #[iv v, iv k] w fun e w' => e = .returned (.tuple #[.agg #[iv 0, .slice none 0 0], iv 1]) ∧ Below w.heap.size w w' := by
  refine calls_wcG (args := [iv v, iv k]) [.cell 4 44, .tmp 5] [] Try.func33 rfl Try.ntmps33 rfl rfl (H.refl _) ?_
  refine WC.seq fun K hK => ?_
  refine WC.region rfl ?_
  refine WL.want rfl (WL1.alloc rfl rfl rfl rfl (fun b4 => ?_))
  refine wG rfl rfl (g_assign rfl (.mk (v := .int _ _) rfl rfl)) ?_
  refine WL.nil ?_
  (refine hK _ _ ?_; clear hK)
  refine WC.seq fun K hK => ?_
  refine WC.seq fun K hK => ?_
  refine WC.region rfl ?_
  refine wG rfl rfl (g_move rfl (.mk (v := .int _ _) rfl rfl)) ?_
  refine wG rfl rfl (g_lt rfl (.mk rfl rfl) (.mk rfl rfl) (decide_eq_false (by omega))) ?_
  refine wG rfl rfl (g_move rfl (.mk (v := .bool _) rfl rfl)) ?_
  refine WL.wantG rfl rfl rfl rfl (WL1.give rfl (g_move rfl (.mk (v := .int _ _) rfl rfl)) ?_)
  refine WL.wantG rfl rfl rfl rfl (WL1.give rfl (g_gt rfl (.mk rfl rfl) (.mk rfl rfl) (decide_eq_false (by omega))) ?_)
  refine wG rfl rfl (g_pickF rfl (.mk rfl rfl) (.mk (v := .bool _) rfl rfl)) ?_
  refine wG rfl rfl (g_move rfl (.mk (v := .bool _) rfl rfl)) ?_
  refine WL.wantG rfl rfl rfl rfl (WL1.give rfl (g_move rfl (.mk (v := .int _ _) rfl rfl)) ?_)
  refine WL.wantG rfl rfl rfl rfl (WL1.give rfl (g_move rfl (.mk (v := .int _ _) rfl rfl)) ?_)
  refine WL.wantG rfl rfl rfl rfl (WL1.give rfl (g_lt rfl (.mk rfl rfl) (.mk rfl rfl) (decide_eq_true (by omega))) ?_)
  refine wG rfl rfl (g_pickF rfl (.mk rfl rfl) (.mk (v := .bool _) rfl rfl)) ?_
  refine wG rfl rfl (g_move rfl (.mk (v := .bool _) rfl rfl)) ?_
  refine WL.skipG rfl rfl rfl rfl rfl rfl ?_
  refine WL.skipG rfl rfl rfl rfl rfl rfl ?_
  refine wG rfl rfl (g_pickT rfl (.mk rfl rfl) (.mk (v := .bool _) rfl rfl)) ?_
  refine WL.nil ?_
  (refine hK _ _ ?_; clear hK)
  refine WC.cond_true (.mk rfl rfl) ?_
  refine WC.seq fun K hK => ?_
  refine WC.region rfl ?_
  refine wG rfl rfl (g_build (cs := [_, _]) rfl rfl rfl rfl .nil rfl rfl rfl) ?_
  refine WL.want rfl (WL1.storeAll rfl rfl (.mk rfl rfl) (.mk rfl rfl) rfl (all1 rfl) (by first | rfl | (simp [Blk.len]; done)) (.head) ?_)
  refine wG rfl rfl (g_assign rfl (.mk (v := .int _ _) rfl rfl)) ?_
  refine WL.nil ?_
  (refine hK _ _ ?_; clear hK)
  refine WC.ret ?_
  exact ⟨_, .cell rfl rfl rfl rfl (by first | ((repeat (first | exact .head _ | apply List.Mem.tail)); done) | fail) (.tmp rfl rfl .nil), fun w' hw' => ⟨rfl, hw'.1⟩⟩
end Go.Proofs.Ytdcijljfgcjelaa
namespace Go.Proofs.Ytdcijljfgcjelaa
set_option maxRecDepth 20000
open Go.RowKit
attribute [local irreducible] Calls
theorem prime3_e (w : World) : Calls Try.prog 83 #[iv 3] w fun e w' => e = .returned (.tuple #[iv 3, iv 1]) ∧ Below w.heap.size w w' := by
  refine calls_wc (args := [iv 3]) [2, 3] [] Try.func83 rfl Try.ntmps83 rfl rfl rfl rfl (H.refl _) ?_
  refine WC.seq fun K hK => ?_
  refine WC.region rfl ?_
  refine wG rfl rfl (g_assign rfl (.mk (v := .int _ _) rfl rfl)) ?_
  refine wG rfl rfl (g_assign rfl (.mk (v := .int _ _) rfl rfl)) ?_
  refine WL.nil ?_
  (refine hK _ _ ?_; clear hK)
  refine WC.seq fun K hK => ?_
  refine WC.seq fun K hK => ?_
  refine WC.region rfl ?_
  refine wG rfl rfl (g_move rfl (.mk (v := .int _ _) rfl rfl)) ?_
  refine WL.nil ?_
  (refine hK _ _ ?_; clear hK)
  refine WC.block ?_
  refine WC.seq fun K hK => ?_
  refine WC.seq fun K hK => ?_
  refine WC.region rfl ?_
  refine wG rfl rfl (g_eq rfl (.mk rfl rfl) (.mk rfl rfl) (decide_eq_false (by omega))) ?_
  refine wG rfl rfl (g_assign rfl (.mk (v := .bool _) rfl rfl)) ?_
  refine WL.nil ?_
  (refine hK _ _ ?_; clear hK)
  refine WC.cond_false (.mk rfl rfl) ?_
  refine WC.seq fun K hK => ?_
  refine WC.region rfl ?_
  refine wG rfl rfl (g_eq rfl (.mk rfl rfl) (.mk rfl rfl) (decide_eq_true (by omega))) ?_
  refine wG rfl rfl (g_assign rfl (.mk (v := .bool _) rfl rfl)) ?_
  refine WL.nil ?_
  (refine hK _ _ ?_; clear hK)
  refine WC.cond_true (.mk rfl rfl) ?_
  refine WC.skip ?_
  (refine hK _ _ ?_; clear hK)
  refine WC.cond_true (.mk rfl rfl) ?_
  refine WC.seq fun K hK => ?_
  refine WC.region rfl ?_
  refine wG rfl rfl (g_move rfl (.mk (v := .int _ _) rfl rfl)) ?_
  refine wG rfl rfl (g_assign rfl (.mk (v := .int _ _) rfl rfl)) ?_
  refine wG rfl rfl (g_assign rfl (.mk (v := .int _ _) rfl rfl)) ?_
  refine WL.nil ?_
  (refine hK _ _ ?_; clear hK)
  refine WC.ret ?_
  exact fun w' hw' => ⟨rfl, hw'.1⟩
def dg (a : Nat) : Nat → List Value
  | 0 => []
  | _ + 1 => [iv (a % 3 : Nat)]
def dr (a : Nat) : Nat → Int
  | 0 => a
  | _ + 1 => (a : Int) / 3
theorem digits3_n (a : Nat) (w : World) (ha : a ≤ 1000) : Calls Try.prog 84 #[iv a, iv 3, iv 1] w fun e w' => ∃ v M, e = .returned v ∧ H w M w' ∧ ∃ D c, v = .slice D 1 c ∧ M = [vec D 1 c 3 1 [iv (a % 3 : Nat)]] := by
  have hrem : (a : Int).tmod 3 = ((a % 3 : Nat) : Int) := by rw [Int.tmod_eq_emod_of_nonneg (by omega)]; omega
  refine calls_wc (args := [iv a, iv 3, iv 1]) [6] [] Try.func84 rfl Try.ntmps84 rfl rfl rfl rfl (H.refl _) ?_
  refine WC.seq fun K hK => ?_
  refine WC.region rfl ?_
  refine wG rfl rfl (g_assign rfl (.mk (v := .slice _ _ _) rfl rfl)) ?_
  refine WL.nil ?_
  (refine hK _ _ ?_; clear hK)
  refine WC.seq fun K hK => ?_
  refine WC.region rfl ?_
  refine wG rfl rfl (g_assign rfl (.mk (v := .slice _ _ _) rfl rfl)) ?_
  refine WL.nil ?_
  (refine hK _ _ ?_; clear hK)
  refine WC.seq fun K hK => ?_
  refine WC.seq fun K hK => ?_
  refine WC.region rfl ?_
  refine wG rfl rfl (g_assign rfl (.mk (v := .int _ _) rfl rfl)) ?_
  refine WL.nil ?_
  (refine hK _ _ ?_; clear hK)
  refine WC.block ?_
  refine WC.nilvec 3 1 ?_
  refine WC.loopI2 (8388481) (fun (i : Nat) (D : Option Addr × Nat) => [(8, iv i), (7, .slice D.1 i D.2), (0, iv (dr a i))]) (fun i D => vec D.1 i D.2 3 1 (dg a i) :: []) (fun i _ => i ≤ 1) (fun i _ => 1 - i) 0 (none, 0) ⟨rfl, rfl, rfl, trivial⟩ (Imp.refl _) (by omega) ?_
  rintro i ⟨D, c⟩ U hi
  dsimp only
  obtain rfl | rfl : i = 0 ∨ i = 1 := by omega
  · have hdr : dr a 0 = (a : Int) := rfl
    rw [hdr]
    refine WC.seq fun K hK => ?_
    refine WC.seq fun K hK => ?_
    refine WC.region rfl ?_
    refine wG rfl rfl (g_move rfl (.mk (v := .int _ _) rfl rfl)) ?_
    refine wG rfl rfl (g_move rfl (.mk (v := .int _ _) rfl rfl)) ?_
    refine wG rfl rfl (g_lt rfl (.mk rfl rfl) (.mk rfl rfl) (decide_eq_true (by omega))) ?_
    refine WL.nil ?_
    (refine hK _ _ ?_; clear hK)
    refine WC.cond_true (.mk rfl rfl) ?_
    refine WC.skip ?_
    (refine hK _ _ ?_; clear hK)
    refine WC.seq fun K hK => ?_
    refine WC.block ?_
    refine WC.seq fun K hK => ?_
    refine WC.region rfl ?_
    refine wG rfl rfl (g_move rfl (.mk (v := .slice _ _ _) rfl rfl)) ?_
    refine wG rfl rfl (g_move rfl (.mk (v := .int _ _) rfl rfl)) ?_
    refine wG rfl rfl (g_move rfl (.mk (v := .int _ _) rfl rfl)) ?_
    refine wG rfl rfl (g_rem rfl (.mk rfl rfl) (.mk rfl rfl) (by omega) hrem) ?_
    refine WL.want rfl (WL1.lit (cs := [_]) elI rfl rfl rfl (.cons (.mk (v := .int _ _) rfl rfl) .nil) rfl (by first | (simp [Value.cells]; done) | fail) rfl rfl (fun b18 => ?_))
    refine WL.want rfl (WL1.append elI rfl rfl (.mk rfl rfl) (.mk rfl rfl) (.tail (.head)) (fun w hw => Sl.of_vec hw (.head _)) (all1 rfl) (by unfold maxLen; omega) (by omega) (fun A19 c19 => ?_))
    refine wG rfl rfl (g_assign rfl (.mk (v := .slice _ _ _) rfl rfl)) ?_
    refine WL.nil ?_
    (refine hK _ _ ?_; clear hK)
    refine WC.region rfl ?_
    refine wG rfl rfl (g_move rfl (.mk (v := .int _ _) rfl rfl)) ?_
    refine wG rfl rfl (g_move rfl (.mk (v := .int _ _) rfl rfl)) ?_
    refine wG rfl rfl (g_quo rfl (.mk rfl rfl) (.mk rfl rfl) (by omega) (IntWalk.i64_quo _ _ (by omega))) ?_
    refine wG rfl rfl (g_assign rfl (.mk (v := .int _ _) rfl rfl)) ?_
    refine WL.nil ?_
    (refine hK _ _ ?_; clear hK)
    refine WC.region rfl ?_
    refine wG rfl rfl (g_move rfl (.mk (v := .int _ _) rfl rfl)) ?_
    refine wG rfl rfl (g_add rfl (.mk rfl rfl) (.mk rfl rfl) (IntWalk.i64_in _ (by omega))) ?_
    refine wG rfl rfl (g_assign rfl (.mk (v := .int _ _) rfl rfl)) ?_
    refine WL.nil ?_
    refine ⟨1, (A19, c19), (by repeat (first | with_reducible exact Out.refl _ _ | refine Out.set rfl ?_ | refine Out.put rfl ?_ | refine Out.sets rfl ?_ | refine Out.hav rfl ?_ | exact Out.refl _ _)), ⟨rfl, rfl, rfl, trivial⟩, ?_, by omega, by omega⟩
    exact Imp.sub (.cons_cons _ (List.nil_sublist _))
  · refine WC.seq fun K hK => ?_
    refine WC.seq fun K hK => ?_
    refine WC.region rfl ?_
    refine wG rfl rfl (g_move rfl (.mk (v := .int _ _) rfl rfl)) ?_
    refine wG rfl rfl (g_move rfl (.mk (v := .int _ _) rfl rfl)) ?_
    refine wG rfl rfl (g_lt rfl (.mk rfl rfl) (.mk rfl rfl) (decide_eq_false (by omega))) ?_
    refine WL.nil ?_
    (refine hK _ _ ?_; clear hK)
    refine WC.cond_false (.mk rfl rfl) ?_
    refine WC.exit ?_
    (clear hK; refine hK _ _ ?_; clear hK)
    refine WC.seq fun K hK => ?_
    refine WC.region rfl ?_
    refine wG rfl rfl (g_move rfl (.mk (v := .slice _ _ _) rfl rfl)) ?_
    refine wG rfl rfl (g_assign rfl (.mk (v := .slice _ _ _) rfl rfl)) ?_
    refine WL.nil ?_
    (refine hK _ _ ?_; clear hK)
    refine WC.ret ?_
    exact fun w' hw' => ⟨_, _, rfl, hw', D, c, rfl, rfl⟩
def nr (x : Int) : Nat → Int
  | 0 => x
  | _ + 1 => 0
theorem number1_e (v : Value) (x : Int) (w : World) (hx : -1000 ≤ x ∧ x ≤ 1000) (hv : Sl w 1 v 1 [iv x]) : Calls Try.prog 85 #[v, iv 3] w fun e w' => e = .returned (iv x) ∧ Below w.heap.size w w' := by
  obtain ⟨A, c, rfl, hc, hm, hs⟩ := hv.open_
  refine calls_wc (args := [.slice A 1 c, iv 3]) [4] [] Try.func85 rfl Try.ntmps85 rfl rfl rfl rfl (H.refl _) ?_
  refine WC.seq fun K hK => ?_
  refine WC.region rfl ?_
  refine wG rfl rfl (g_assign rfl (.mk (v := .int _ _) rfl rfl)) ?_
  refine WL.nil ?_
  (refine hK _ _ ?_; clear hK)
  refine WC.seq fun K hK => ?_
  refine WC.region rfl ?_
  refine wG rfl rfl (g_assign rfl (.mk (v := .int _ _) rfl rfl)) ?_
  refine WL.nil ?_
  (refine hK _ _ ?_; clear hK)
  refine WC.seq fun K hK => ?_
  refine WC.seq fun K hK => ?_
  refine WC.region rfl ?_
  refine wG rfl rfl (g_move rfl (.mk (v := .slice _ _ _) rfl rfl)) ?_
  refine wG rfl rfl (g_len rfl (.mk rfl rfl) rfl) ?_
  refine wG rfl rfl (g_sub rfl (.mk rfl rfl) (.mk rfl rfl) (IntWalk.i64_in _ (by omega))) ?_
  refine wG rfl rfl (g_assign rfl (.mk (v := .int _ _) rfl rfl)) ?_
  refine WL.nil ?_
  (refine hK _ _ ?_; clear hK)
  refine WC.block ?_
  refine WC.loop (4193376) (fun i : Nat => [(6, iv ((i : Int) - 1)), (5, iv (nr x i))]) (fun _ => []) (fun i => i ≤ 1) (fun i => i) 1 ⟨rfl, rfl, trivial⟩ (.refl _) (by omega) ?_
  intro i U hi
  obtain rfl | rfl : i = 0 ∨ i = 1 := by omega
  · refine WC.seq fun K hK => ?_
    refine WC.seq fun K hK => ?_
    refine WC.region rfl ?_
    refine wG rfl rfl (g_move rfl (.mk (v := .int _ _) rfl rfl)) ?_
    refine wG rfl rfl (g_ge rfl (.mk rfl rfl) (.mk rfl rfl) (decide_eq_false (by omega))) ?_
    refine WL.nil ?_
    (refine hK _ _ ?_; clear hK)
    refine WC.cond_false (.mk rfl rfl) ?_
    refine WC.exit ?_
    (clear hK; refine hK _ _ ?_; clear hK)
    refine WC.seq fun K hK => ?_
    refine WC.region rfl ?_
    refine wG rfl rfl (g_move rfl (.mk (v := .int _ _) rfl rfl)) ?_
    refine wG rfl rfl (g_assign rfl (.mk (v := .int _ _) rfl rfl)) ?_
    refine WL.nil ?_
    (refine hK _ _ ?_; clear hK)
    refine WC.ret ?_
    exact fun w' hw' => ⟨rfl, hw'.1⟩
  · have hnr : nr x 1 = 0 := rfl
    rw [hnr]
    have hg : ([iv x] : List Value)[((1 : Nat) : Int) - 1 |>.toNat]? = some (iv x) := rfl
    refine WC.seq fun K hK => ?_
    refine WC.seq fun K hK => ?_
    refine WC.region rfl ?_
    refine wG rfl rfl (g_move rfl (.mk (v := .int _ _) rfl rfl)) ?_
    refine wG rfl rfl (g_ge rfl (.mk rfl rfl) (.mk rfl rfl) (decide_eq_true (by omega))) ?_
    refine WL.nil ?_
    (refine hK _ _ ?_; clear hK)
    refine WC.cond_true (.mk rfl rfl) ?_
    refine WC.skip ?_
    (refine hK _ _ ?_; clear hK)
    refine WC.seq fun K hK => ?_
    refine WC.block ?_
    refine WC.region rfl ?_
    refine wG rfl rfl (g_move rfl (.mk (v := .int _ _) rfl rfl)) ?_
    refine wG rfl rfl (g_move rfl (.mk (v := .int _ _) rfl rfl)) ?_
    refine wG rfl rfl (g_mul rfl (.mk rfl rfl) (.mk rfl rfl) (IntWalk.i64_in _ (by omega))) ?_
    refine wG rfl rfl (g_move rfl (.mk (v := .slice _ _ _) rfl rfl)) ?_
    refine wG rfl rfl (g_move rfl (.mk (v := .int _ _) rfl rfl)) ?_
    refine wG rfl rfl (g_indexAddr (sz := 1) rfl (.mk rfl rfl) (.mk rfl rfl) rfl rfl (show _ = ((0 : Nat) : Int) from rfl) (by omega) (fun _ _ => sl_some hs (by omega))) ?_
    refine wG rfl rfl (g_load rfl (.mk rfl rfl) rfl (rd_sl hs (rfl : ([iv x] : List Value)[_]? = some (iv x)))) ?_
    refine wG rfl rfl (g_add rfl (.mk rfl rfl) (.mk rfl rfl) (IntWalk.i64_in _ (by omega))) ?_
    refine wG rfl rfl (g_assign rfl (.mk (v := .int _ _) rfl rfl)) ?_
    refine WL.nil ?_
    (refine hK _ _ ?_; clear hK)
    refine WC.region rfl ?_
    refine wG rfl rfl (g_move rfl (.mk (v := .int _ _) rfl rfl)) ?_
    refine wG rfl rfl (g_sub rfl (.mk rfl rfl) (.mk rfl rfl) (IntWalk.i64_in _ (by omega))) ?_
    refine wG rfl rfl (g_assign rfl (.mk (v := .int _ _) rfl rfl)) ?_
    refine WL.nil ?_
    exact ⟨0, (by repeat (first | with_reducible exact Out.refl _ _ | refine Out.set rfl ?_ | refine Out.put rfl ?_ | refine Out.sets rfl ?_ | refine Out.hav rfl ?_ | exact Out.refl _ _)), ⟨rfl, by show iv _ = iv _; congr 1 <;> (show _ = x; omega), trivial⟩, .refl _, by omega, by omega⟩
def ad (x z : Nat) : Nat → Int
  | 0 => x
  | _ + 1 => z
theorem radd3_e (a b : Nat) (w : World) (ha : a ≤ 1000) (hb : b ≤ 1000) : Calls Try.prog 70 #[iv 3, iv a, iv b] w fun e w' => e = .returned (iv ((a % 3 + b % 3) % 3 : Nat)) ∧ Below w.heap.size w w' := by
  have hrem : ((a % 3 : Nat) + (b % 3 : Nat) : Int).tmod 3 = (((a % 3 + b % 3) % 3 : Nat) : Int) := by rw [Int.tmod_eq_emod_of_nonneg (by omega)]; omega
  have h1 := fun w => digits3_n a w ha
  have h2 := fun w => digits3_n b w hb
  generalize ha3 : a % 3 = x at *
  generalize hb3 : b % 3 = y at *
  refine calls_wc (args := [iv 3, iv a, iv b]) [6] [] Try.func70 rfl Try.ntmps70 rfl rfl rfl rfl (H.refl _) ?_
  refine WC.seq fun K hK => ?_
  refine WC.region rfl ?_
  refine wG rfl rfl (g_assign rfl (.mk (v := .int _ _) rfl rfl)) ?_
  refine WL.nil ?_
  (refine hK _ _ ?_; clear hK)
  refine WC.seq fun K hK => ?_
  refine WC.region rfl ?_
  refine wG rfl rfl (g_move rfl (.mk (v := .int _ _) rfl rfl)) ?_
  refine WL.want rfl (WL1.callP rfl rfl rfl (.cons (.mk (v := .int _ _) rfl rfl) .nil) (fun w hw => prime3_e w) ?_)
  refine wG rfl rfl (g_move rfl (.mk (v := .tuple _) rfl rfl)) ?_
  refine wG rfl rfl (g_extract rfl (.mk rfl rfl) rfl) ?_
  refine wG rfl rfl (g_extract rfl (.mk rfl rfl) rfl) ?_
  refine wG rfl rfl (g_assign rfl (.mk (v := .int _ _) rfl rfl)) ?_
  refine wG rfl rfl (g_assign rfl (.mk (v := .int _ _) rfl rfl)) ?_
  refine WL.nil ?_
  (refine hK _ _ ?_; clear hK)
  refine WC.seq fun K hK => ?_
  refine WC.region rfl ?_
  refine wG rfl rfl (g_move rfl (.mk (v := .int _ _) rfl rfl)) ?_
  refine wG rfl rfl (g_move rfl (.mk (v := .int _ _) rfl rfl)) ?_
  refine wG rfl rfl (g_move rfl (.mk (v := .int _ _) rfl rfl)) ?_
  (refine WL.want rfl (WL1.callN rfl rfl rfl (.cons (.mk (v := .int _ _) rfl rfl) (.cons (.mk (v := .int _ _) rfl rfl) (.cons (.mk (v := .int _ _) rfl rfl) .nil))) (fun w hw => h1 w) ?_); rintro _ _ ⟨D, c, rfl, rfl⟩)
  refine wG rfl rfl (g_move rfl (.mk (v := .int _ _) rfl rfl)) ?_
  refine wG rfl rfl (g_move rfl (.mk (v := .int _ _) rfl rfl)) ?_
  refine wG rfl rfl (g_move rfl (.mk (v := .int _ _) rfl rfl)) ?_
  (refine WL.want rfl (WL1.callN rfl rfl rfl (.cons (.mk (v := .int _ _) rfl rfl) (.cons (.mk (v := .int _ _) rfl rfl) (.cons (.mk (v := .int _ _) rfl rfl) .nil))) (fun w hw => h2 w) ?_); rintro _ _ ⟨D2, c2, rfl, rfl⟩)
  refine wG rfl rfl (g_assign rfl (.mk (v := .slice _ _ _) rfl rfl)) ?_
  refine wG rfl rfl (g_assign rfl (.mk (v := .slice _ _ _) rfl rfl)) ?_
  refine WL.nil ?_
  (refine hK _ _ ?_; clear hK)
  refine WC.seq fun K hK => ?_
  refine WC.seq fun K hK => ?_
  refine WC.region rfl ?_
  refine wG rfl rfl (g_assign rfl (.mk (v := .int _ _) rfl rfl)) ?_
  refine WL.nil ?_
  (refine hK _ _ ?_; clear hK)
  refine WC.block ?_
  have hx : x ≤ 2 := by omega
  have hy : y ≤ 2 := by omega
  obtain ⟨z, hz⟩ : ∃ z, z = (x + y) % 3 := ⟨_, rfl⟩
  rw [← hz] at hrem ⊢
  have hz2 : z ≤ 2 := by omega
  refine WC.loop (17592152492032) (fun i : Nat => [(11, iv i)]) (fun i => [vec D2 1 c2 3 1 [iv y], vec D 1 c 3 1 [iv (ad x z i)]]) (fun i => i ≤ 1) (fun i => 1 - i) 0 ⟨rfl, trivial⟩ (.refl _) (by omega) ?_
  intro i U hi
  obtain rfl | rfl : i = 0 ∨ i = 1 := by omega
  · have had : ad x z 0 = (x : Int) := rfl
    rw [had]
    refine WC.seq fun K hK => ?_
    refine WC.seq fun K hK => ?_
    refine WC.region rfl ?_
    refine wG rfl rfl (g_move rfl (.mk (v := .int _ _) rfl rfl)) ?_
    refine wG rfl rfl (g_move rfl (.mk (v := .int _ _) rfl rfl)) ?_
    refine wG rfl rfl (g_lt rfl (.mk rfl rfl) (.mk rfl rfl) (decide_eq_true (by omega))) ?_
    refine WL.nil ?_
    (refine hK _ _ ?_; clear hK)
    refine WC.cond_true (.mk rfl rfl) ?_
    refine WC.skip ?_
    (refine hK _ _ ?_; clear hK)
    refine WC.seq fun K hK => ?_
    refine WC.block ?_
    refine WC.untilL [14] rfl (by kernel_rfl) ?_
    refine WB.takeP 0 rfl (by decide +kernel) (by decide +kernel) (by decide +kernel) (by decide +kernel) rfl rfl (.inr (Imp.sub (by first | ((repeat (first | exact List.nil_sublist _ | exact List.Sublist.refl _ | apply List.Sublist.cons_cons | apply List.Sublist.cons)); done) | fail))) (g_move rfl (.mk (v := .slice _ _ _) rfl rfl)) ?_
    refine WB.takeP 1 rfl (by decide +kernel) (by decide +kernel) (by decide +kernel) (by decide +kernel) rfl rfl (.inr (Imp.sub (by first | ((repeat (first | exact List.nil_sublist _ | exact List.Sublist.refl _ | apply List.Sublist.cons_cons | apply List.Sublist.cons)); done) | fail))) (g_move rfl (.mk (v := .int _ _) rfl rfl)) ?_
    refine WB.takeP 2 rfl (by decide +kernel) (by decide +kernel) (by decide +kernel) (by decide +kernel) rfl rfl (.inr (Imp.sub (by first | ((repeat (first | exact List.nil_sublist _ | exact List.Sublist.refl _ | apply List.Sublist.cons_cons | apply List.Sublist.cons)); done) | fail))) (g_move rfl (.mk (v := .slice _ _ _) rfl rfl)) ?_
    refine WB.takeP 3 rfl (by decide +kernel) (by decide +kernel) (by decide +kernel) (by decide +kernel) rfl rfl (.inr (Imp.sub (by first | ((repeat (first | exact List.nil_sublist _ | exact List.Sublist.refl _ | apply List.Sublist.cons_cons | apply List.Sublist.cons)); done) | fail))) (g_move rfl (.mk (v := .int _ _) rfl rfl)) ?_
    refine WB.take 4 rfl (by decide +kernel) (by decide +kernel) (by decide +kernel) (by decide +kernel) rfl rfl (Imp.sub (by first | ((repeat (first | exact List.nil_sublist _ | exact List.Sublist.refl _ | apply List.Sublist.cons_cons | apply List.Sublist.cons)); done) | fail)) (g_indexAddr (sz := 1) rfl (.mk rfl rfl) (.mk rfl rfl) rfl rfl (show _ = ((0 : Nat) : Int) from rfl) (by omega) (fun w hw => vec_some hw (.tail _ (.head _)) (by omega))) ?_
    refine WB.take 5 rfl (by decide +kernel) (by decide +kernel) (by decide +kernel) (by decide +kernel) rfl rfl (Imp.sub (by first | ((repeat (first | exact List.nil_sublist _ | exact List.Sublist.refl _ | apply List.Sublist.cons_cons | apply List.Sublist.cons)); done) | fail)) (g_load rfl (.mk rfl rfl) rfl (rd_vec (.tail _ (.head _)) (rfl : ([iv x] : List Value)[_]? = some (iv x)))) ?_
    refine WB.takeP 6 rfl (by decide +kernel) (by decide +kernel) (by decide +kernel) (by decide +kernel) rfl rfl (.inr (Imp.sub (by first | ((repeat (first | exact List.nil_sublist _ | exact List.Sublist.refl _ | apply List.Sublist.cons_cons | apply List.Sublist.cons)); done) | fail))) (g_move rfl (.mk (v := .slice _ _ _) rfl rfl)) ?_
    refine WB.takeP 7 rfl (by decide +kernel) (by decide +kernel) (by decide +kernel) (by decide +kernel) rfl rfl (.inr (Imp.sub (by first | ((repeat (first | exact List.nil_sublist _ | exact List.Sublist.refl _ | apply List.Sublist.cons_cons | apply List.Sublist.cons)); done) | fail))) (g_move rfl (.mk (v := .int _ _) rfl rfl)) ?_
    refine WB.take 8 rfl (by decide +kernel) (by decide +kernel) (by decide +kernel) (by decide +kernel) rfl rfl (Imp.sub (by first | ((repeat (first | exact List.nil_sublist _ | exact List.Sublist.refl _ | apply List.Sublist.cons_cons | apply List.Sublist.cons)); done) | fail)) (g_indexAddr (sz := 1) rfl (.mk rfl rfl) (.mk rfl rfl) rfl rfl (show _ = ((0 : Nat) : Int) from rfl) (by omega) (fun w hw => vec_some hw (.head _) (by omega))) ?_
    refine WB.take 9 rfl (by decide +kernel) (by decide +kernel) (by decide +kernel) (by decide +kernel) rfl rfl (Imp.sub (by first | ((repeat (first | exact List.nil_sublist _ | exact List.Sublist.refl _ | apply List.Sublist.cons_cons | apply List.Sublist.cons)); done) | fail)) (g_load rfl (.mk rfl rfl) rfl (rd_vec (.head _) (rfl : ([iv y] : List Value)[_]? = some (iv y)))) ?_
    refine WB.takeP 10 rfl (by decide +kernel) (by decide +kernel) (by decide +kernel) (by decide +kernel) rfl rfl (.inr (Imp.sub (by first | ((repeat (first | exact List.nil_sublist _ | exact List.Sublist.refl _ | apply List.Sublist.cons_cons | apply List.Sublist.cons)); done) | fail))) (g_add rfl (.mk rfl rfl) (.mk rfl rfl) (IntWalk.i64_in _ (by omega))) ?_
    refine WB.takeP 11 rfl (by decide +kernel) (by decide +kernel) (by decide +kernel) (by decide +kernel) rfl rfl (.inr (Imp.sub (by first | ((repeat (first | exact List.nil_sublist _ | exact List.Sublist.refl _ | apply List.Sublist.cons_cons | apply List.Sublist.cons)); done) | fail))) (g_move rfl (.mk (v := .int _ _) rfl rfl)) ?_
    refine WB.takeP 12 rfl (by decide +kernel) (by decide +kernel) (by decide +kernel) (by decide +kernel) rfl rfl (.inr (Imp.sub (by first | ((repeat (first | exact List.nil_sublist _ | exact List.Sublist.refl _ | apply List.Sublist.cons_cons | apply List.Sublist.cons)); done) | fail))) (g_rem rfl (.mk rfl rfl) (.mk rfl rfl) (by omega) hrem) ?_
    refine WB.take 13 rfl (by decide +kernel) (by decide +kernel) (by decide +kernel) (by decide +kernel) rfl rfl (Imp.sub (by first | ((repeat (first | exact List.nil_sublist _ | exact List.Sublist.refl _ | apply List.Sublist.cons_cons | apply List.Sublist.cons)); done) | fail)) (g_indexAddr (sz := 1) rfl (.mk rfl rfl) (.mk rfl rfl) rfl rfl (show _ = ((0 : Nat) : Int) from rfl) (by omega) (fun w hw => vec_some hw (.tail _ (.head _)) (by omega))) ?_
    refine WB.one 14 (by decide +kernel) rfl rfl ?_
    refine WL1.storeV1 rfl rfl (.mk rfl rfl) (.mk (v := .int _ _) rfl rfl) rfl rfl (by first | omega | (simp; done) | (simp; omega)) (.tail (.head)) ?_
    refine WL.nil ?_
    refine ⟨.inl (by decide +kernel), ?_⟩
    refine WB.done (by decide +kernel) ?_
    (refine hK _ _ ?_; clear hK)
    refine WC.region rfl ?_
    refine wG rfl rfl (g_move rfl (.mk (v := .int _ _) rfl rfl)) ?_
    refine wG rfl rfl (g_add rfl (.mk rfl rfl) (.mk rfl rfl) (IntWalk.i64_in _ (by omega))) ?_
    refine wG rfl rfl (g_assign rfl (.mk (v := .int _ _) rfl rfl)) ?_
    refine WL.nil ?_
    exact ⟨1, (by repeat (first | with_reducible exact Out.refl _ _ | refine Out.set rfl ?_ | refine Out.put rfl ?_ | refine Out.sets rfl ?_ | refine Out.hav rfl ?_ | exact Out.refl _ _)), ⟨rfl, trivial⟩, .refl _, by omega, by omega⟩
  · have had : ad x z 1 = (z : Int) := rfl
    rw [had]
    refine WC.seq fun K hK => ?_
    refine WC.seq fun K hK => ?_
    refine WC.region rfl ?_
    refine wG rfl rfl (g_move rfl (.mk (v := .int _ _) rfl rfl)) ?_
    refine wG rfl rfl (g_move rfl (.mk (v := .int _ _) rfl rfl)) ?_
    refine wG rfl rfl (g_lt rfl (.mk rfl rfl) (.mk rfl rfl) (decide_eq_false (by omega))) ?_
    refine WL.nil ?_
    (refine hK _ _ ?_; clear hK)
    refine WC.cond_false (.mk rfl rfl) ?_
    refine WC.exit ?_
    (clear hK; refine hK _ _ ?_; clear hK)
    refine WC.seq fun K hK => ?_
    refine WC.region rfl ?_
    refine wG rfl rfl (g_move rfl (.mk (v := .slice _ _ _) rfl rfl)) ?_
    refine wG rfl rfl (g_move rfl (.mk (v := .int _ _) rfl rfl)) ?_
    refine WL.want rfl (WL1.callP rfl rfl rfl (.cons (.mk (v := .slice _ _ _) rfl rfl) (.cons (.mk (v := .int _ _) rfl rfl) .nil)) (fun w hw => number1_e _ z w (by omega) (Sl.of_vec hw (.tail _ (.head _)))) ?_)
    refine wG rfl rfl (g_assign rfl (.mk (v := .int _ _) rfl rfl)) ?_
    refine WL.nil ?_
    (refine hK _ _ ?_; clear hK)
    refine WC.ret ?_
    exact fun w' hw' => ⟨by rw [← hz]; rfl, hw'.1⟩
theorem rmul3_e (a b : Nat) (w : World) (ha : a ≤ 1000) (hb : b ≤ 1000) : Calls Try.prog 71 #[iv 3, iv a, iv b] w fun e w' => e = .returned (iv (a * b % 3 : Nat)) ∧ Below w.heap.size w w' := by
  have hp : a * b ≤ 1000 * 1000 := Nat.mul_le_mul ha hb
  have hmul : IntKind.i64.wrap ((a : Int) * b) = ((a * b : Nat) : Int) := by rw [← Int.natCast_mul]; exact IntWalk.i64_in _ (by omega)
  generalize a * b = z at *
  have hrem : (z : Int).tmod 3 = ((z % 3 : Nat) : Int) := by rw [Int.tmod_eq_emod_of_nonneg (by omega)]; omega
  refine calls_wc (args := [iv 3, iv a, iv b]) [6] [] Try.func71 rfl Try.ntmps71 rfl rfl rfl rfl (H.refl _) ?_
  refine WC.seq fun K hK => ?_
  refine WC.region rfl ?_
  refine wG rfl rfl (g_assign rfl (.mk (v := .int _ _) rfl rfl)) ?_
  refine WL.nil ?_
  (refine hK _ _ ?_; clear hK)
  refine WC.seq fun K hK => ?_
  refine WC.region rfl ?_
  refine wG rfl rfl (g_move rfl (.mk (v := .int _ _) rfl rfl)) ?_
  refine WL.want rfl (WL1.callP rfl rfl rfl (.cons (.mk (v := .int _ _) rfl rfl) .nil) (fun w hw => prime3_e w) ?_)
  refine wG rfl rfl (g_move rfl (.mk (v := .tuple _) rfl rfl)) ?_
  refine wG rfl rfl (g_extract rfl (.mk rfl rfl) rfl) ?_
  refine wG rfl rfl (g_extract rfl (.mk rfl rfl) rfl) ?_
  refine wG rfl rfl (g_assign rfl (.mk (v := .int _ _) rfl rfl)) ?_
  refine wG rfl rfl (g_assign rfl (.mk (v := .int _ _) rfl rfl)) ?_
  refine WL.nil ?_
  (refine hK _ _ ?_; clear hK)
  refine WC.seq fun K hK => ?_
  refine WC.seq fun K hK => ?_
  refine WC.region rfl ?_
  refine wG rfl rfl (g_move rfl (.mk (v := .int _ _) rfl rfl)) ?_
  refine wG rfl rfl (g_eq rfl (.mk rfl rfl) (.mk rfl rfl) (decide_eq_true (by omega))) ?_
  refine WL.nil ?_
  (refine hK _ _ ?_; clear hK)
  refine WC.cond_true (.mk rfl rfl) ?_
  refine WC.seq fun K hK => ?_
  refine WC.region rfl ?_
  refine wG rfl rfl (g_move rfl (.mk (v := .int _ _) rfl rfl)) ?_
  refine wG rfl rfl (g_move rfl (.mk (v := .int _ _) rfl rfl)) ?_
  refine wG rfl rfl (g_mul rfl (.mk rfl rfl) (.mk rfl rfl) hmul) ?_
  refine wG rfl rfl (g_move rfl (.mk (v := .int _ _) rfl rfl)) ?_
  refine wG rfl rfl (g_rem rfl (.mk rfl rfl) (.mk rfl rfl) (by omega) hrem) ?_
  refine wG rfl rfl (g_assign rfl (.mk (v := .int _ _) rfl rfl)) ?_
  refine WL.nil ?_
  (refine hK _ _ ?_; clear hK)
  refine WC.ret ?_
  exact fun w' hw' => ⟨rfl, hw'.1⟩
end Go.Proofs.Ytdcijljfgcjelaa
namespace Go.Proofs.Ytdcijljfgcjelaa
set_option maxRecDepth 20000
open Go.RowKit
attribute [local irreducible] Calls
def okN (x y z : Nat) : Bool := Nat.beq x 1 || (Nat.beq x 0 && Nat.beq y 1) || (Nat.beq x 0 && Nat.beq y 0 && Nat.beq z 1)
def coL : Nat → List (List Nat)
  | 0 => []
  | n + 1 => if okN (n / 9) (n / 3 % 3) (n % 3) = true then coL n ++ [[n / 9, n / 3 % 3, n % 3]] else coL n
theorem coL_len : ∀ n, (coL n).length ≤ n
  | 0 => Nat.le_refl _
  | n + 1 => by
    have := coL_len n
    rw [coL]
    split
    · rw [List.length_append]; simp; omega
    · omega
theorem coL_step {x y z : Nat} (hy : y < 3) (hz : z < 3) : coL (9 * x + 3 * y + z + 1) = if okN x y z = true then coL (9 * x + 3 * y + z) ++ [[x, y, z]] else coL (9 * x + 3 * y + z) := by
  rw [coL, show (9 * x + 3 * y + z) / 9 = x from by omega, show (9 * x + 3 * y + z) / 3 % 3 = y from by omega, show (9 * x + 3 * y + z) % 3 = z from by omega]
def cc (l : List (List Nat)) : List Value := l.flatMap ldv
theorem cc_app (a b : List (List Nat)) : cc a ++ cc b = cc (a ++ b) := List.flatMap_append.symm
abbrev C3T : TypeId := 113
theorem elC3 : Elem Try.prog 121 C3T (.agg #[iv 0, iv 0, iv 0]) 3 24 := ⟨by kernel_rfl, by kernel_rfl, rfl, by decide⟩
set_option maxHeartbeats 2000000 in
theorem coords3_n (w : World) : Calls Try.prog 69 #[iv 3] w fun e w' => ∃ v M, e = .returned v ∧ H w M w' ∧ ∃ A c, v = .slice A (coL 27).length c ∧ M = [vec A (coL 27).length c C3T 3 (cc (coL 27))] := by
  refine calls_wc (args := [iv 3]) [2] [] Try.func69 rfl Try.ntmps69 rfl rfl rfl rfl (H.refl _) ?_
  refine WC.seq fun K hK => ?_
  refine WC.region rfl ?_
  refine wG rfl rfl (g_assign rfl (.mk (v := .slice _ _ _) rfl rfl)) ?_
  refine WL.nil ?_
  (refine hK _ _ ?_; clear hK)
  refine WC.seq fun K hK => ?_
  refine WC.region rfl ?_
  refine wG rfl rfl (g_assign rfl (.mk (v := .slice _ _ _) rfl rfl)) ?_
  refine WL.nil ?_
  (refine hK _ _ ?_; clear hK)
  refine WC.seq fun K hK => ?_
  refine WC.seq fun K hK => ?_
  refine WC.region rfl ?_
  refine wG rfl rfl (g_assign rfl (.mk (v := .int _ _) rfl rfl)) ?_
  refine WL.nil ?_
  (refine hK _ _ ?_; clear hK)
  refine WC.block ?_
  refine WC.nilvec C3T 3 ?_
  refine WC.loopI2 (2251799813685240) (fun (x : Nat) (D : Option Addr × Nat) => [(4, iv x), (3, .slice D.1 (coL (9 * x)).length D.2)]) (fun x D => vec D.1 (coL (9 * x)).length D.2 C3T 3 (cc (coL (9 * x))) :: []) (fun x _ => x ≤ 3) (fun x _ => 3 - x) 0 (none, 0) ⟨rfl, rfl, trivial⟩ (Imp.refl _) (by omega) ?_
  rintro x ⟨A, c⟩ U hx
  dsimp only
  by_cases hx3 : x < 3
  · refine WC.seq fun K hK => ?_
    refine WC.seq fun K hK => ?_
    refine WC.region rfl ?_
    refine wG rfl rfl (g_move rfl (.mk (v := .int _ _) rfl rfl)) ?_
    refine wG rfl rfl (g_move rfl (.mk (v := .int _ _) rfl rfl)) ?_
    refine wG rfl rfl (g_lt rfl (.mk rfl rfl) (.mk rfl rfl) (decide_eq_true (by omega))) ?_
    refine WL.nil ?_
    (refine hK _ _ ?_; clear hK)
    refine WC.cond_true (.mk rfl rfl) ?_
    refine WC.skip ?_
    (refine hK _ _ ?_; clear hK)
    refine WC.seq fun K hK => ?_
    refine WC.block ?_
    refine WC.seq fun K hK => ?_
    refine WC.region rfl ?_
    refine wG rfl rfl (g_assign rfl (.mk (v := .int _ _) rfl rfl)) ?_
    refine WL.nil ?_
    (refine hK _ _ ?_; clear hK)
    refine WC.block ?_
    refine WC.loopI2 (2251799813681256) (fun (y : Nat) (D : Option Addr × Nat) => [(5, iv y), (3, .slice D.1 (coL (9 * x + 3 * y)).length D.2)]) (fun y D => vec D.1 (coL (9 * x + 3 * y)).length D.2 C3T 3 (cc (coL (9 * x + 3 * y))) :: []) (fun y _ => y ≤ 3) (fun y _ => 3 - y) 0 (A, c) ⟨rfl, rfl, trivial⟩ (Imp.refl _) (by omega) ?_
    rintro y ⟨A, c⟩ U2 hy
    dsimp only
    by_cases hy3 : y < 3
    · refine WC.seq fun K hK => ?_
      refine WC.seq fun K hK => ?_
      refine WC.region rfl ?_
      refine wG rfl rfl (g_move rfl (.mk (v := .int _ _) rfl rfl)) ?_
      refine wG rfl rfl (g_move rfl (.mk (v := .int _ _) rfl rfl)) ?_
      refine wG rfl rfl (g_lt rfl (.mk rfl rfl) (.mk rfl rfl) (decide_eq_true (by omega))) ?_
      refine WL.nil ?_
      (refine hK _ _ ?_; clear hK)
      refine WC.cond_true (.mk rfl rfl) ?_
      refine WC.skip ?_
      (refine hK _ _ ?_; clear hK)
      refine WC.seq fun K hK => ?_
      refine WC.block ?_
      refine WC.seq fun K hK => ?_
      refine WC.region rfl ?_
      refine wG rfl rfl (g_assign rfl (.mk (v := .int _ _) rfl rfl)) ?_
      refine WL.nil ?_
      (refine hK _ _ ?_; clear hK)
      refine WC.block ?_
      refine WC.loopI2 (2251799813554248) (fun (z : Nat) (D : Option Addr × Nat) => [(6, iv z), (3, .slice D.1 (coL (9 * x + 3 * y + z)).length D.2)]) (fun z D => vec D.1 (coL (9 * x + 3 * y + z)).length D.2 C3T 3 (cc (coL (9 * x + 3 * y + z))) :: []) (fun z _ => z ≤ 3) (fun z _ => 3 - z) 0 (A, c) ⟨rfl, rfl, trivial⟩ (Imp.refl _) (by omega) ?_
      rintro z ⟨A, c⟩ U3 hz
      dsimp only
      by_cases hz3 : z < 3
      · have hst := coL_step (x := x) hy3 hz3
        have hln := coL_len (9 * x + 3 * y + z)
        have hcc : cc (coL (9 * x + 3 * y + z)) ++ [iv x, iv y, iv z] = cc (coL (9 * x + 3 * y + z) ++ [[x, y, z]]) := cc_app _ [[x, y, z]]
        have hl1 : (coL (9 * x + 3 * y + z) ++ [[x, y, z]]).length = (coL (9 * x + 3 * y + z)).length + 1 := by rw [List.length_append]; rfl
        by_cases h1 : x = 1
        · have hb : okN x y z = true := by subst h1; rfl
          rw [if_pos hb] at hst
          refine WC.seq fun K hK => ?_
          refine WC.seq fun K hK => ?_
          refine WC.region rfl ?_
          refine wG rfl rfl (g_move rfl (.mk (v := .int _ _) rfl rfl)) ?_
          refine wG rfl rfl (g_move rfl (.mk (v := .int _ _) rfl rfl)) ?_
          refine wG rfl rfl (g_lt rfl (.mk rfl rfl) (.mk rfl rfl) (decide_eq_true (by omega))) ?_
          refine WL.nil ?_
          (refine hK _ _ ?_; clear hK)
          refine WC.cond_true (.mk rfl rfl) ?_
          refine WC.skip ?_
          (refine hK _ _ ?_; clear hK)
          refine WC.seq fun K hK => ?_
          refine WC.block ?_
          refine WC.seq fun K hK => ?_
          refine WC.region rfl ?_
          refine wG rfl rfl (g_move rfl (.mk (v := .int _ _) rfl rfl)) ?_
          refine wG rfl rfl (g_eq rfl (.mk rfl rfl) (.mk rfl rfl) (decide_eq_true (by omega))) ?_
          refine wG rfl rfl (g_move rfl (.mk (v := .bool _) rfl rfl)) ?_
          refine WL.skipG rfl rfl rfl rfl rfl rfl ?_
          refine WL.skipG rfl rfl rfl rfl rfl rfl ?_
          refine WL.skipG rfl rfl rfl rfl rfl rfl ?_
          refine WL.skipU rfl rfl rfl rfl rfl ?_
          refine WL.skipU rfl rfl rfl rfl rfl ?_
          refine WL.skipG rfl rfl rfl rfl rfl rfl ?_
          refine wG rfl rfl (g_pickT rfl (.mk rfl rfl) (.mk (v := .bool _) rfl rfl)) ?_
          refine wG rfl rfl (g_move rfl (.mk (v := .bool _) rfl rfl)) ?_
          refine WL.skipG rfl rfl rfl rfl rfl rfl ?_
          refine WL.skipG rfl rfl rfl rfl rfl rfl ?_
          refine WL.skipG rfl rfl rfl rfl rfl rfl ?_
          refine WL.skipU rfl rfl rfl rfl rfl ?_
          refine WL.skipU rfl rfl rfl rfl rfl ?_
          refine WL.skipG rfl rfl rfl rfl rfl rfl ?_
          refine WL.skipG rfl rfl rfl rfl rfl rfl ?_
          refine WL.skipU rfl rfl rfl rfl rfl ?_
          refine WL.skipU rfl rfl rfl rfl rfl ?_
          refine WL.skipG rfl rfl rfl rfl rfl rfl ?_
          refine wG rfl rfl (g_pickT rfl (.mk rfl rfl) (.mk (v := .bool _) rfl rfl)) ?_
          refine WL.nil ?_
          (refine hK _ _ ?_; clear hK)
          refine WC.cond_true (.mk rfl rfl) ?_
          refine WC.region rfl ?_
          refine wG rfl rfl (g_move rfl (.mk (v := .slice _ _ _) rfl rfl)) ?_
          refine wG rfl rfl (g_move rfl (.mk (v := .int _ _) rfl rfl)) ?_
          refine wG rfl rfl (g_move rfl (.mk (v := .int _ _) rfl rfl)) ?_
          refine wG rfl rfl (g_move rfl (.mk (v := .int _ _) rfl rfl)) ?_
          refine wG rfl rfl (g_buildArr (cs := [_, _, _]) rfl rfl rfl rfl rfl (.cons (.mk (v := .int _ _) rfl rfl) (.cons (.mk (v := .int _ _) rfl rfl) (.cons (.mk (v := .int _ _) rfl rfl) .nil))) rfl rfl rfl) ?_
          refine WL.want rfl (WL1.lit (cs := [iv x, iv y, iv z]) elC3 rfl rfl rfl (.cons (.mk (v := .agg _) rfl rfl) .nil) rfl (by intro v hv; rw [List.mem_singleton] at hv; subst hv; rfl) rfl rfl (fun b49 => ?_))
          refine WL.want rfl (WL1.append elC3 rfl rfl (.mk rfl rfl) (.mk rfl rfl) (.tail (.head)) (fun w hw => Sl.of_vec hw (.head _)) (by intro u hu; simp only [List.mem_cons, List.not_mem_nil, or_false] at hu; rcases hu with rfl | rfl | rfl <;> rfl) (by unfold maxLen; omega) (by omega) (fun A50 c50 => ?_))
          refine wG rfl rfl (g_assign rfl (.mk (v := .slice _ _ _) rfl rfl)) ?_
          refine WL.nil ?_
          (refine hK _ _ ?_; clear hK)
          refine WC.region rfl ?_
          refine wG rfl rfl (g_move rfl (.mk (v := .int _ _) rfl rfl)) ?_
          refine wG rfl rfl (g_add rfl (.mk rfl rfl) (.mk rfl rfl) (IntWalk.i64_in _ (by omega))) ?_
          refine wG rfl rfl (g_assign rfl (.mk (v := .int _ _) rfl rfl)) ?_
          refine WL.nil ?_
          refine ⟨z + 1, (A50, c50), (by repeat (first | with_reducible exact Out.refl _ _ | refine Out.set rfl ?_ | refine Out.put rfl ?_ | refine Out.sets rfl ?_ | refine Out.hav rfl ?_ | exact Out.refl _ _)), ⟨rfl, by show Value.slice _ _ _ = Value.slice A50 (coL (9 * x + 3 * y + z + 1)).length c50; rw [hst, hl1], trivial⟩, ?_, by omega, by omega⟩
          show Imp _ (vec A50 (coL (9 * x + 3 * y + z + 1)).length c50 C3T 3 (cc (coL (9 * x + 3 * y + z + 1))) :: [])
          rw [hst, hl1, ← hcc]
          exact Imp.sub (.cons_cons _ (List.nil_sublist _))
        by_cases h2 : x = 2
        · have hb : okN x y z = false := by subst h2; rfl
          rw [if_neg (by rw [hb]; exact Bool.false_ne_true)] at hst
          refine WC.seq fun K hK => ?_
          refine WC.seq fun K hK => ?_
          refine WC.region rfl ?_
          refine wG rfl rfl (g_move rfl (.mk (v := .int _ _) rfl rfl)) ?_
          refine wG rfl rfl (g_move rfl (.mk (v := .int _ _) rfl rfl)) ?_
          refine wG rfl rfl (g_lt rfl (.mk rfl rfl) (.mk rfl rfl) (decide_eq_true (by omega))) ?_
          refine WL.nil ?_
          (refine hK _ _ ?_; clear hK)
          refine WC.cond_true (.mk rfl rfl) ?_
          refine WC.skip ?_
          (refine hK _ _ ?_; clear hK)
          refine WC.seq fun K hK => ?_
          refine WC.block ?_
          refine WC.seq fun K hK => ?_
          refine WC.region rfl ?_
          refine wG rfl rfl (g_move rfl (.mk (v := .int _ _) rfl rfl)) ?_
          refine wG rfl rfl (g_eq rfl (.mk rfl rfl) (.mk rfl rfl) (decide_eq_false (by omega))) ?_
          refine wG rfl rfl (g_move rfl (.mk (v := .bool _) rfl rfl)) ?_
          refine WL.wantG rfl rfl rfl rfl (WL1.give rfl (g_move rfl (.mk (v := .int _ _) rfl rfl)) ?_)
          refine WL.wantG rfl rfl rfl rfl (WL1.give rfl (g_eq rfl (.mk rfl rfl) (.mk rfl rfl) (decide_eq_false (by omega))) ?_)
          refine WL.wantG rfl rfl rfl rfl (WL1.give rfl (g_move rfl (.mk (v := .bool _) rfl rfl)) ?_)
          refine WL.skipG rfl rfl rfl rfl rfl rfl ?_
          refine WL.skipG rfl rfl rfl rfl rfl rfl ?_
          refine WL.wantG rfl rfl rfl rfl (WL1.give rfl (g_pickF rfl (.mk rfl rfl) (.mk (v := .bool _) rfl rfl)) ?_)
          refine wG rfl rfl (g_pickF rfl (.mk rfl rfl) (.mk (v := .bool _) rfl rfl)) ?_
          refine wG rfl rfl (g_move rfl (.mk (v := .bool _) rfl rfl)) ?_
          refine WL.wantG rfl rfl rfl rfl (WL1.give rfl (g_move rfl (.mk (v := .int _ _) rfl rfl)) ?_)
          refine WL.wantG rfl rfl rfl rfl (WL1.give rfl (g_eq rfl (.mk rfl rfl) (.mk rfl rfl) (decide_eq_false (by omega))) ?_)
          refine WL.wantG rfl rfl rfl rfl (WL1.give rfl (g_move rfl (.mk (v := .bool _) rfl rfl)) ?_)
          refine WL.skipG rfl rfl rfl rfl rfl rfl ?_
          refine WL.skipG rfl rfl rfl rfl rfl rfl ?_
          refine WL.wantG rfl rfl rfl rfl (WL1.give rfl (g_pickF rfl (.mk rfl rfl) (.mk (v := .bool _) rfl rfl)) ?_)
          refine WL.wantG rfl rfl rfl rfl (WL1.give rfl (g_move rfl (.mk (v := .bool _) rfl rfl)) ?_)
          refine WL.skipG rfl rfl rfl rfl rfl rfl ?_
          refine WL.skipG rfl rfl rfl rfl rfl rfl ?_
          refine WL.wantG rfl rfl rfl rfl (WL1.give rfl (g_pickF rfl (.mk rfl rfl) (.mk (v := .bool _) rfl rfl)) ?_)
          refine wG rfl rfl (g_pickF rfl (.mk rfl rfl) (.mk (v := .bool _) rfl rfl)) ?_
          refine WL.nil ?_
          (refine hK _ _ ?_; clear hK)
          refine WC.cond_false (.mk rfl rfl) ?_
          refine WC.skip ?_
          (refine hK _ _ ?_; clear hK)
          refine WC.region rfl ?_
          refine wG rfl rfl (g_move rfl (.mk (v := .int _ _) rfl rfl)) ?_
          refine wG rfl rfl (g_add rfl (.mk rfl rfl) (.mk rfl rfl) (IntWalk.i64_in _ (by omega))) ?_
          refine wG rfl rfl (g_assign rfl (.mk (v := .int _ _) rfl rfl)) ?_
          refine WL.nil ?_
          refine ⟨z + 1, (A, c), (by repeat (first | with_reducible exact Out.refl _ _ | refine Out.set rfl ?_ | refine Out.put rfl ?_ | refine Out.sets rfl ?_ | refine Out.hav rfl ?_ | exact Out.refl _ _)), ⟨rfl, by show Value.slice _ _ _ = Value.slice A (coL (9 * x + 3 * y + z + 1)).length c; rw [hst], trivial⟩, ?_, by omega, by omega⟩
          show Imp _ (vec A (coL (9 * x + 3 * y + z + 1)).length c C3T 3 (cc (coL (9 * x + 3 * y + z + 1))) :: [])
          rw [hst]
          exact Imp.refl _
        have h0 : x = 0 := by omega
        by_cases g1 : y = 1
        · have hb : okN x y z = true := by subst h0; subst g1; rfl
          rw [if_pos hb] at hst
          refine WC.seq fun K hK => ?_
          refine WC.seq fun K hK => ?_
          refine WC.region rfl ?_
          refine wG rfl rfl (g_move rfl (.mk (v := .int _ _) rfl rfl)) ?_
          refine wG rfl rfl (g_move rfl (.mk (v := .int _ _) rfl rfl)) ?_
          refine wG rfl rfl (g_lt rfl (.mk rfl rfl) (.mk rfl rfl) (decide_eq_true (by omega))) ?_
          refine WL.nil ?_
          (refine hK _ _ ?_; clear hK)
          refine WC.cond_true (.mk rfl rfl) ?_
          refine WC.skip ?_
          (refine hK _ _ ?_; clear hK)
          refine WC.seq fun K hK => ?_
          refine WC.block ?_
          refine WC.seq fun K hK => ?_
          refine WC.region rfl ?_
          refine wG rfl rfl (g_move rfl (.mk (v := .int _ _) rfl rfl)) ?_
          refine wG rfl rfl (g_eq rfl (.mk rfl rfl) (.mk rfl rfl) (decide_eq_false (by omega))) ?_
          refine wG rfl rfl (g_move rfl (.mk (v := .bool _) rfl rfl)) ?_
          refine WL.wantG rfl rfl rfl rfl (WL1.give rfl (g_move rfl (.mk (v := .int _ _) rfl rfl)) ?_)
          refine WL.wantG rfl rfl rfl rfl (WL1.give rfl (g_eq rfl (.mk rfl rfl) (.mk rfl rfl) (decide_eq_true (by omega))) ?_)
          refine WL.wantG rfl rfl rfl rfl (WL1.give rfl (g_move rfl (.mk (v := .bool _) rfl rfl)) ?_)
          refine WL.wantG rfl rfl rfl rfl (WL1.give rfl (g_move rfl (.mk (v := .int _ _) rfl rfl)) ?_)
          refine WL.wantG rfl rfl rfl rfl (WL1.give rfl (g_eq rfl (.mk rfl rfl) (.mk rfl rfl) (decide_eq_true (by omega))) ?_)
          refine WL.wantG rfl rfl rfl rfl (WL1.give rfl (g_pickT rfl (.mk rfl rfl) (.mk (v := .bool _) rfl rfl)) ?_)
          refine wG rfl rfl (g_pickF rfl (.mk rfl rfl) (.mk (v := .bool _) rfl rfl)) ?_
          refine wG rfl rfl (g_move rfl (.mk (v := .bool _) rfl rfl)) ?_
          refine WL.skipG rfl rfl rfl rfl rfl rfl ?_
          refine WL.skipG rfl rfl rfl rfl rfl rfl ?_
          refine WL.skipG rfl rfl rfl rfl rfl rfl ?_
          refine WL.skipU rfl rfl rfl rfl rfl ?_
          refine WL.skipU rfl rfl rfl rfl rfl ?_
          refine WL.skipG rfl rfl rfl rfl rfl rfl ?_
          refine WL.skipG rfl rfl rfl rfl rfl rfl ?_
          refine WL.skipU rfl rfl rfl rfl rfl ?_
          refine WL.skipU rfl rfl rfl rfl rfl ?_
          refine WL.skipG rfl rfl rfl rfl rfl rfl ?_
          refine wG rfl rfl (g_pickT rfl (.mk rfl rfl) (.mk (v := .bool _) rfl rfl)) ?_
          refine WL.nil ?_
          (refine hK _ _ ?_; clear hK)
          refine WC.cond_true (.mk rfl rfl) ?_
          refine WC.region rfl ?_
          refine wG rfl rfl (g_move rfl (.mk (v := .slice _ _ _) rfl rfl)) ?_
          refine wG rfl rfl (g_move rfl (.mk (v := .int _ _) rfl rfl)) ?_
          refine wG rfl rfl (g_move rfl (.mk (v := .int _ _) rfl rfl)) ?_
          refine wG rfl rfl (g_move rfl (.mk (v := .int _ _) rfl rfl)) ?_
          refine wG rfl rfl (g_buildArr (cs := [_, _, _]) rfl rfl rfl rfl rfl (.cons (.mk (v := .int _ _) rfl rfl) (.cons (.mk (v := .int _ _) rfl rfl) (.cons (.mk (v := .int _ _) rfl rfl) .nil))) rfl rfl rfl) ?_
          refine WL.want rfl (WL1.lit (cs := [iv x, iv y, iv z]) elC3 rfl rfl rfl (.cons (.mk (v := .agg _) rfl rfl) .nil) rfl (by intro v hv; rw [List.mem_singleton] at hv; subst hv; rfl) rfl rfl (fun b49 => ?_))
          refine WL.want rfl (WL1.append elC3 rfl rfl (.mk rfl rfl) (.mk rfl rfl) (.tail (.head)) (fun w hw => Sl.of_vec hw (.head _)) (by intro u hu; simp only [List.mem_cons, List.not_mem_nil, or_false] at hu; rcases hu with rfl | rfl | rfl <;> rfl) (by unfold maxLen; omega) (by omega) (fun A50 c50 => ?_))
          refine wG rfl rfl (g_assign rfl (.mk (v := .slice _ _ _) rfl rfl)) ?_
          refine WL.nil ?_
          (refine hK _ _ ?_; clear hK)
          refine WC.region rfl ?_
          refine wG rfl rfl (g_move rfl (.mk (v := .int _ _) rfl rfl)) ?_
          refine wG rfl rfl (g_add rfl (.mk rfl rfl) (.mk rfl rfl) (IntWalk.i64_in _ (by omega))) ?_
          refine wG rfl rfl (g_assign rfl (.mk (v := .int _ _) rfl rfl)) ?_
          refine WL.nil ?_
          refine ⟨z + 1, (A50, c50), (by repeat (first | with_reducible exact Out.refl _ _ | refine Out.set rfl ?_ | refine Out.put rfl ?_ | refine Out.sets rfl ?_ | refine Out.hav rfl ?_ | exact Out.refl _ _)), ⟨rfl, by show Value.slice _ _ _ = Value.slice A50 (coL (9 * x + 3 * y + z + 1)).length c50; rw [hst, hl1], trivial⟩, ?_, by omega, by omega⟩
          show Imp _ (vec A50 (coL (9 * x + 3 * y + z + 1)).length c50 C3T 3 (cc (coL (9 * x + 3 * y + z + 1))) :: [])
          rw [hst, hl1, ← hcc]
          exact Imp.sub (.cons_cons _ (List.nil_sublist _))
        by_cases g2 : y = 2
        · have hb : okN x y z = false := by subst h0; subst g2; rfl
          rw [if_neg (by rw [hb]; exact Bool.false_ne_true)] at hst
          refine WC.seq fun K hK => ?_
          refine WC.seq fun K hK => ?_
          refine WC.region rfl ?_
          refine wG rfl rfl (g_move rfl (.mk (v := .int _ _) rfl rfl)) ?_
          refine wG rfl rfl (g_move rfl (.mk (v := .int _ _) rfl rfl)) ?_
          refine wG rfl rfl (g_lt rfl (.mk rfl rfl) (.mk rfl rfl) (decide_eq_true (by omega))) ?_
          refine WL.nil ?_
          (refine hK _ _ ?_; clear hK)
          refine WC.cond_true (.mk rfl rfl) ?_
          refine WC.skip ?_
          (refine hK _ _ ?_; clear hK)
          refine WC.seq fun K hK => ?_
          refine WC.block ?_
          refine WC.seq fun K hK => ?_
          refine WC.region rfl ?_
          refine wG rfl rfl (g_move rfl (.mk (v := .int _ _) rfl rfl)) ?_
          refine wG rfl rfl (g_eq rfl (.mk rfl rfl) (.mk rfl rfl) (decide_eq_false (by omega))) ?_
          refine wG rfl rfl (g_move rfl (.mk (v := .bool _) rfl rfl)) ?_
          refine WL.wantG rfl rfl rfl rfl (WL1.give rfl (g_move rfl (.mk (v := .int _ _) rfl rfl)) ?_)
          refine WL.wantG rfl rfl rfl rfl (WL1.give rfl (g_eq rfl (.mk rfl rfl) (.mk rfl rfl) (decide_eq_true (by omega))) ?_)
          refine WL.wantG rfl rfl rfl rfl (WL1.give rfl (g_move rfl (.mk (v := .bool _) rfl rfl)) ?_)
          refine WL.wantG rfl rfl rfl rfl (WL1.give rfl (g_move rfl (.mk (v := .int _ _) rfl rfl)) ?_)
          refine WL.wantG rfl rfl rfl rfl (WL1.give rfl (g_eq rfl (.mk rfl rfl) (.mk rfl rfl) (decide_eq_false (by omega))) ?_)
          refine WL.wantG rfl rfl rfl rfl (WL1.give rfl (g_pickT rfl (.mk rfl rfl) (.mk (v := .bool _) rfl rfl)) ?_)
          refine wG rfl rfl (g_pickF rfl (.mk rfl rfl) (.mk (v := .bool _) rfl rfl)) ?_
          refine wG rfl rfl (g_move rfl (.mk (v := .bool _) rfl rfl)) ?_
          refine WL.wantG rfl rfl rfl rfl (WL1.give rfl (g_move rfl (.mk (v := .int _ _) rfl rfl)) ?_)
          refine WL.wantG rfl rfl rfl rfl (WL1.give rfl (g_eq rfl (.mk rfl rfl) (.mk rfl rfl) (decide_eq_true (by omega))) ?_)
          refine WL.wantG rfl rfl rfl rfl (WL1.give rfl (g_move rfl (.mk (v := .bool _) rfl rfl)) ?_)
          refine WL.wantG rfl rfl rfl rfl (WL1.give rfl (g_move rfl (.mk (v := .int _ _) rfl rfl)) ?_)
          refine WL.wantG rfl rfl rfl rfl (WL1.give rfl (g_eq rfl (.mk rfl rfl) (.mk rfl rfl) (decide_eq_false (by omega))) ?_)
          refine WL.wantG rfl rfl rfl rfl (WL1.give rfl (g_pickT rfl (.mk rfl rfl) (.mk (v := .bool _) rfl rfl)) ?_)
          refine WL.wantG rfl rfl rfl rfl (WL1.give rfl (g_move rfl (.mk (v := .bool _) rfl rfl)) ?_)
          refine WL.skipG rfl rfl rfl rfl rfl rfl ?_
          refine WL.skipG rfl rfl rfl rfl rfl rfl ?_
          refine WL.wantG rfl rfl rfl rfl (WL1.give rfl (g_pickF rfl (.mk rfl rfl) (.mk (v := .bool _) rfl rfl)) ?_)
          refine wG rfl rfl (g_pickF rfl (.mk rfl rfl) (.mk (v := .bool _) rfl rfl)) ?_
          refine WL.nil ?_
          (refine hK _ _ ?_; clear hK)
          refine WC.cond_false (.mk rfl rfl) ?_
          refine WC.skip ?_
          (refine hK _ _ ?_; clear hK)
          refine WC.region rfl ?_
          refine wG rfl rfl (g_move rfl (.mk (v := .int _ _) rfl rfl)) ?_
          refine wG rfl rfl (g_add rfl (.mk rfl rfl) (.mk rfl rfl) (IntWalk.i64_in _ (by omega))) ?_
          refine wG rfl rfl (g_assign rfl (.mk (v := .int _ _) rfl rfl)) ?_
          refine WL.nil ?_
          refine ⟨z + 1, (A, c), (by repeat (first | with_reducible exact Out.refl _ _ | refine Out.set rfl ?_ | refine Out.put rfl ?_ | refine Out.sets rfl ?_ | refine Out.hav rfl ?_ | exact Out.refl _ _)), ⟨rfl, by show Value.slice _ _ _ = Value.slice A (coL (9 * x + 3 * y + z + 1)).length c; rw [hst], trivial⟩, ?_, by omega, by omega⟩
          show Imp _ (vec A (coL (9 * x + 3 * y + z + 1)).length c C3T 3 (cc (coL (9 * x + 3 * y + z + 1))) :: [])
          rw [hst]
          exact Imp.refl _
        have g0 : y = 0 := by omega
        by_cases k1 : z = 1
        · have hb : okN x y z = true := by subst h0; subst g0; subst k1; rfl
          rw [if_pos hb] at hst
          refine WC.seq fun K hK => ?_
          refine WC.seq fun K hK => ?_
          refine WC.region rfl ?_
          refine wG rfl rfl (g_move rfl (.mk (v := .int _ _) rfl rfl)) ?_
          refine wG rfl rfl (g_move rfl (.mk (v := .int _ _) rfl rfl)) ?_
          refine wG rfl rfl (g_lt rfl (.mk rfl rfl) (.mk rfl rfl) (decide_eq_true (by omega))) ?_
          refine WL.nil ?_
          (refine hK _ _ ?_; clear hK)
          refine WC.cond_true (.mk rfl rfl) ?_
          refine WC.skip ?_
          (refine hK _ _ ?_; clear hK)
          refine WC.seq fun K hK => ?_
          refine WC.block ?_
          refine WC.seq fun K hK => ?_
          refine WC.region rfl ?_
          refine wG rfl rfl (g_move rfl (.mk (v := .int _ _) rfl rfl)) ?_
          refine wG rfl rfl (g_eq rfl (.mk rfl rfl) (.mk rfl rfl) (decide_eq_false (by omega))) ?_
          refine wG rfl rfl (g_move rfl (.mk (v := .bool _) rfl rfl)) ?_
          refine WL.wantG rfl rfl rfl rfl (WL1.give rfl (g_move rfl (.mk (v := .int _ _) rfl rfl)) ?_)
          refine WL.wantG rfl rfl rfl rfl (WL1.give rfl (g_eq rfl (.mk rfl rfl) (.mk rfl rfl) (decide_eq_true (by omega))) ?_)
          refine WL.wantG rfl rfl rfl rfl (WL1.give rfl (g_move rfl (.mk (v := .bool _) rfl rfl)) ?_)
          refine WL.wantG rfl rfl rfl rfl (WL1.give rfl (g_move rfl (.mk (v := .int _ _) rfl rfl)) ?_)
          refine WL.wantG rfl rfl rfl rfl (WL1.give rfl (g_eq rfl (.mk rfl rfl) (.mk rfl rfl) (decide_eq_false (by omega))) ?_)
          refine WL.wantG rfl rfl rfl rfl (WL1.give rfl (g_pickT rfl (.mk rfl rfl) (.mk (v := .bool _) rfl rfl)) ?_)
          refine wG rfl rfl (g_pickF rfl (.mk rfl rfl) (.mk (v := .bool _) rfl rfl)) ?_
          refine wG rfl rfl (g_move rfl (.mk (v := .bool _) rfl rfl)) ?_
          refine WL.wantG rfl rfl rfl rfl (WL1.give rfl (g_move rfl (.mk (v := .int _ _) rfl rfl)) ?_)
          refine WL.wantG rfl rfl rfl rfl (WL1.give rfl (g_eq rfl (.mk rfl rfl) (.mk rfl rfl) (decide_eq_true (by omega))) ?_)
          refine WL.wantG rfl rfl rfl rfl (WL1.give rfl (g_move rfl (.mk (v := .bool _) rfl rfl)) ?_)
          refine WL.wantG rfl rfl rfl rfl (WL1.give rfl (g_move rfl (.mk (v := .int _ _) rfl rfl)) ?_)
          refine WL.wantG rfl rfl rfl rfl (WL1.give rfl (g_eq rfl (.mk rfl rfl) (.mk rfl rfl) (decide_eq_true (by omega))) ?_)
          refine WL.wantG rfl rfl rfl rfl (WL1.give rfl (g_pickT rfl (.mk rfl rfl) (.mk (v := .bool _) rfl rfl)) ?_)
          refine WL.wantG rfl rfl rfl rfl (WL1.give rfl (g_move rfl (.mk (v := .bool _) rfl rfl)) ?_)
          refine WL.wantG rfl rfl rfl rfl (WL1.give rfl (g_move rfl (.mk (v := .int _ _) rfl rfl)) ?_)
          refine WL.wantG rfl rfl rfl rfl (WL1.give rfl (g_eq rfl (.mk rfl rfl) (.mk rfl rfl) (decide_eq_true (by omega))) ?_)
          refine WL.wantG rfl rfl rfl rfl (WL1.give rfl (g_pickT rfl (.mk rfl rfl) (.mk (v := .bool _) rfl rfl)) ?_)
          refine wG rfl rfl (g_pickF rfl (.mk rfl rfl) (.mk (v := .bool _) rfl rfl)) ?_
          refine WL.nil ?_
          (refine hK _ _ ?_; clear hK)
          refine WC.cond_true (.mk rfl rfl) ?_
          refine WC.region rfl ?_
          refine wG rfl rfl (g_move rfl (.mk (v := .slice _ _ _) rfl rfl)) ?_
          refine wG rfl rfl (g_move rfl (.mk (v := .int _ _) rfl rfl)) ?_
          refine wG rfl rfl (g_move rfl (.mk (v := .int _ _) rfl rfl)) ?_
          refine wG rfl rfl (g_move rfl (.mk (v := .int _ _) rfl rfl)) ?_
          refine wG rfl rfl (g_buildArr (cs := [_, _, _]) rfl rfl rfl rfl rfl (.cons (.mk (v := .int _ _) rfl rfl) (.cons (.mk (v := .int _ _) rfl rfl) (.cons (.mk (v := .int _ _) rfl rfl) .nil))) rfl rfl rfl) ?_
          refine WL.want rfl (WL1.lit (cs := [iv x, iv y, iv z]) elC3 rfl rfl rfl (.cons (.mk (v := .agg _) rfl rfl) .nil) rfl (by intro v hv; rw [List.mem_singleton] at hv; subst hv; rfl) rfl rfl (fun b49 => ?_))
          refine WL.want rfl (WL1.append elC3 rfl rfl (.mk rfl rfl) (.mk rfl rfl) (.tail (.head)) (fun w hw => Sl.of_vec hw (.head _)) (by intro u hu; simp only [List.mem_cons, List.not_mem_nil, or_false] at hu; rcases hu with rfl | rfl | rfl <;> rfl) (by unfold maxLen; omega) (by omega) (fun A50 c50 => ?_))
          refine wG rfl rfl (g_assign rfl (.mk (v := .slice _ _ _) rfl rfl)) ?_
          refine WL.nil ?_
          (refine hK _ _ ?_; clear hK)
          refine WC.region rfl ?_
          refine wG rfl rfl (g_move rfl (.mk (v := .int _ _) rfl rfl)) ?_
          refine wG rfl rfl (g_add rfl (.mk rfl rfl) (.mk rfl rfl) (IntWalk.i64_in _ (by omega))) ?_
          refine wG rfl rfl (g_assign rfl (.mk (v := .int _ _) rfl rfl)) ?_
          refine WL.nil ?_
          refine ⟨z + 1, (A50, c50), (by repeat (first | with_reducible exact Out.refl _ _ | refine Out.set rfl ?_ | refine Out.put rfl ?_ | refine Out.sets rfl ?_ | refine Out.hav rfl ?_ | exact Out.refl _ _)), ⟨rfl, by show Value.slice _ _ _ = Value.slice A50 (coL (9 * x + 3 * y + z + 1)).length c50; rw [hst, hl1], trivial⟩, ?_, by omega, by omega⟩
          show Imp _ (vec A50 (coL (9 * x + 3 * y + z + 1)).length c50 C3T 3 (cc (coL (9 * x + 3 * y + z + 1))) :: [])
          rw [hst, hl1, ← hcc]
          exact Imp.sub (.cons_cons _ (List.nil_sublist _))
        · have hb : okN x y z = false := by subst h0; subst g0; rcases (show z = 0 ∨ z = 2 by omega) with rfl | rfl <;> rfl
          rw [if_neg (by rw [hb]; exact Bool.false_ne_true)] at hst
          refine WC.seq fun K hK => ?_
          refine WC.seq fun K hK => ?_
          refine WC.region rfl ?_
          refine wG rfl rfl (g_move rfl (.mk (v := .int _ _) rfl rfl)) ?_
          refine wG rfl rfl (g_move rfl (.mk (v := .int _ _) rfl rfl)) ?_
          refine wG rfl rfl (g_lt rfl (.mk rfl rfl) (.mk rfl rfl) (decide_eq_true (by omega))) ?_
          refine WL.nil ?_
          (refine hK _ _ ?_; clear hK)
          refine WC.cond_true (.mk rfl rfl) ?_
          refine WC.skip ?_
          (refine hK _ _ ?_; clear hK)
          refine WC.seq fun K hK => ?_
          refine WC.block ?_
          refine WC.seq fun K hK => ?_
          refine WC.region rfl ?_
          refine wG rfl rfl (g_move rfl (.mk (v := .int _ _) rfl rfl)) ?_
          refine wG rfl rfl (g_eq rfl (.mk rfl rfl) (.mk rfl rfl) (decide_eq_false (by omega))) ?_
          refine wG rfl rfl (g_move rfl (.mk (v := .bool _) rfl rfl)) ?_
          refine WL.wantG rfl rfl rfl rfl (WL1.give rfl (g_move rfl (.mk (v := .int _ _) rfl rfl)) ?_)
          refine WL.wantG rfl rfl rfl rfl (WL1.give rfl (g_eq rfl (.mk rfl rfl) (.mk rfl rfl) (decide_eq_true (by omega))) ?_)
          refine WL.wantG rfl rfl rfl rfl (WL1.give rfl (g_move rfl (.mk (v := .bool _) rfl rfl)) ?_)
          refine WL.wantG rfl rfl rfl rfl (WL1.give rfl (g_move rfl (.mk (v := .int _ _) rfl rfl)) ?_)
          refine WL.wantG rfl rfl rfl rfl (WL1.give rfl (g_eq rfl (.mk rfl rfl) (.mk rfl rfl) (decide_eq_false (by omega))) ?_)
          refine WL.wantG rfl rfl rfl rfl (WL1.give rfl (g_pickT rfl (.mk rfl rfl) (.mk (v := .bool _) rfl rfl)) ?_)
          refine wG rfl rfl (g_pickF rfl (.mk rfl rfl) (.mk (v := .bool _) rfl rfl)) ?_
          refine wG rfl rfl (g_move rfl (.mk (v := .bool _) rfl rfl)) ?_
          refine WL.wantG rfl rfl rfl rfl (WL1.give rfl (g_move rfl (.mk (v := .int _ _) rfl rfl)) ?_)
          refine WL.wantG rfl rfl rfl rfl (WL1.give rfl (g_eq rfl (.mk rfl rfl) (.mk rfl rfl) (decide_eq_true (by omega))) ?_)
          refine WL.wantG rfl rfl rfl rfl (WL1.give rfl (g_move rfl (.mk (v := .bool _) rfl rfl)) ?_)
          refine WL.wantG rfl rfl rfl rfl (WL1.give rfl (g_move rfl (.mk (v := .int _ _) rfl rfl)) ?_)
          refine WL.wantG rfl rfl rfl rfl (WL1.give rfl (g_eq rfl (.mk rfl rfl) (.mk rfl rfl) (decide_eq_true (by omega))) ?_)
          refine WL.wantG rfl rfl rfl rfl (WL1.give rfl (g_pickT rfl (.mk rfl rfl) (.mk (v := .bool _) rfl rfl)) ?_)
          refine WL.wantG rfl rfl rfl rfl (WL1.give rfl (g_move rfl (.mk (v := .bool _) rfl rfl)) ?_)
          refine WL.wantG rfl rfl rfl rfl (WL1.give rfl (g_move rfl (.mk (v := .int _ _) rfl rfl)) ?_)
          refine WL.wantG rfl rfl rfl rfl (WL1.give rfl (g_eq rfl (.mk rfl rfl) (.mk rfl rfl) (decide_eq_false (by omega))) ?_)
          refine WL.wantG rfl rfl rfl rfl (WL1.give rfl (g_pickT rfl (.mk rfl rfl) (.mk (v := .bool _) rfl rfl)) ?_)
          refine wG rfl rfl (g_pickF rfl (.mk rfl rfl) (.mk (v := .bool _) rfl rfl)) ?_
          refine WL.nil ?_
          (refine hK _ _ ?_; clear hK)
          refine WC.cond_false (.mk rfl rfl) ?_
          refine WC.skip ?_
          (refine hK _ _ ?_; clear hK)
          refine WC.region rfl ?_
          refine wG rfl rfl (g_move rfl (.mk (v := .int _ _) rfl rfl)) ?_
          refine wG rfl rfl (g_add rfl (.mk rfl rfl) (.mk rfl rfl) (IntWalk.i64_in _ (by omega))) ?_
          refine wG rfl rfl (g_assign rfl (.mk (v := .int _ _) rfl rfl)) ?_
          refine WL.nil ?_
          refine ⟨z + 1, (A, c), (by repeat (first | with_reducible exact Out.refl _ _ | refine Out.set rfl ?_ | refine Out.put rfl ?_ | refine Out.sets rfl ?_ | refine Out.hav rfl ?_ | exact Out.refl _ _)), ⟨rfl, by show Value.slice _ _ _ = Value.slice A (coL (9 * x + 3 * y + z + 1)).length c; rw [hst], trivial⟩, ?_, by omega, by omega⟩
          show Imp _ (vec A (coL (9 * x + 3 * y + z + 1)).length c C3T 3 (cc (coL (9 * x + 3 * y + z + 1))) :: [])
          rw [hst]
          exact Imp.refl _
      · obtain rfl : z = 3 := by omega
        refine WC.seq fun K hK => ?_
        refine WC.seq fun K hK => ?_
        refine WC.region rfl ?_
        refine wG rfl rfl (g_move rfl (.mk (v := .int _ _) rfl rfl)) ?_
        refine wG rfl rfl (g_move rfl (.mk (v := .int _ _) rfl rfl)) ?_
        refine wG rfl rfl (g_lt rfl (.mk rfl rfl) (.mk rfl rfl) (decide_eq_false (by omega))) ?_
        refine WL.nil ?_
        (refine hK _ _ ?_; clear hK)
        refine WC.cond_false (.mk rfl rfl) ?_
        refine WC.exit ?_
        (clear hK; refine hK _ _ ?_; clear hK)
        refine WC.region rfl ?_
        refine wG rfl rfl (g_move rfl (.mk (v := .int _ _) rfl rfl)) ?_
        refine wG rfl rfl (g_add rfl (.mk rfl rfl) (.mk rfl rfl) (IntWalk.i64_in _ (by omega))) ?_
        refine wG rfl rfl (g_assign rfl (.mk (v := .int _ _) rfl rfl)) ?_
        refine WL.nil ?_
        exact ⟨y + 1, (A, c), (by repeat (first | with_reducible exact Out.refl _ _ | refine Out.set rfl ?_ | refine Out.put rfl ?_ | refine Out.sets rfl ?_ | refine Out.hav rfl ?_ | exact Out.refl _ _)), ⟨rfl, by rw [show 9 * x + 3 * (y + 1) = 9 * x + 3 * y + 3 from by omega]; rfl, trivial⟩, by rw [show 9 * x + 3 * (y + 1) = 9 * x + 3 * y + 3 from by omega]; exact Imp.refl _, by omega, by omega⟩
    · obtain rfl : y = 3 := by omega
      refine WC.seq fun K hK => ?_
      refine WC.seq fun K hK => ?_
      refine WC.region rfl ?_
      refine wG rfl rfl (g_move rfl (.mk (v := .int _ _) rfl rfl)) ?_
      refine wG rfl rfl (g_move rfl (.mk (v := .int _ _) rfl rfl)) ?_
      refine wG rfl rfl (g_lt rfl (.mk rfl rfl) (.mk rfl rfl) (decide_eq_false (by omega))) ?_
      refine WL.nil ?_
      (refine hK _ _ ?_; clear hK)
      refine WC.cond_false (.mk rfl rfl) ?_
      refine WC.exit ?_
      (clear hK; refine hK _ _ ?_; clear hK)
      refine WC.region rfl ?_
      refine wG rfl rfl (g_move rfl (.mk (v := .int _ _) rfl rfl)) ?_
      refine wG rfl rfl (g_add rfl (.mk rfl rfl) (.mk rfl rfl) (IntWalk.i64_in _ (by omega))) ?_
      refine wG rfl rfl (g_assign rfl (.mk (v := .int _ _) rfl rfl)) ?_
      refine WL.nil ?_
      exact ⟨x + 1, (A, c), (by repeat (first | with_reducible exact Out.refl _ _ | refine Out.set rfl ?_ | refine Out.put rfl ?_ | refine Out.sets rfl ?_ | refine Out.hav rfl ?_ | exact Out.refl _ _)), ⟨rfl, by rw [show 9 * (x + 1) = 9 * x + 3 * 3 from by omega]; rfl, trivial⟩, by rw [show 9 * (x + 1) = 9 * x + 3 * 3 from by omega]; exact Imp.refl _, by omega, by omega⟩
  · obtain rfl : x = 3 := by omega
    refine WC.seq fun K hK => ?_
    refine WC.seq fun K hK => ?_
    refine WC.region rfl ?_
    refine wG rfl rfl (g_move rfl (.mk (v := .int _ _) rfl rfl)) ?_
    refine wG rfl rfl (g_move rfl (.mk (v := .int _ _) rfl rfl)) ?_
    refine wG rfl rfl (g_lt rfl (.mk rfl rfl) (.mk rfl rfl) (decide_eq_false (by omega))) ?_
    refine WL.nil ?_
    (refine hK _ _ ?_; clear hK)
    refine WC.cond_false (.mk rfl rfl) ?_
    refine WC.exit ?_
    (clear hK; refine hK _ _ ?_; clear hK)
    refine WC.seq fun K hK => ?_
    refine WC.region rfl ?_
    refine wG rfl rfl (g_move rfl (.mk (v := .slice _ _ _) rfl rfl)) ?_
    refine wG rfl rfl (g_assign rfl (.mk (v := .slice _ _ _) rfl rfl)) ?_
    refine WL.nil ?_
    (refine hK _ _ ?_; clear hK)
    refine WC.ret ?_
    exact fun w' hw' => ⟨_, _, rfl, hw', A, c, rfl, rfl⟩
end Go.Proofs.Ytdcijljfgcjelaa
namespace Go.Proofs.Ytdcijljfgcjelaa
set_option maxRecDepth 20000
open Go.RowKit
attribute [local irreducible] Calls
theorem cc_get : ∀ {L : List (List Nat)}, (∀ r ∈ L, r.length = 3) → ∀ {i n : Nat}, i < L.length → n < 3 → (cc L)[i * 3 + n]? = some (iv (nth (nth L i) n : Nat))
  | r :: L, h, 0, n, _, hn => by
    have hr := h r (by simp)
    show (ldv r ++ cc L)[0 * 3 + n]? = some (iv (nth r n : Nat))
    rw [Nat.zero_mul, Nat.zero_add, List.getElem?_append_left (by rw [ldv_len, hr]; exact hn)]
    have := ldv_get (ld := r) (k := n) (by omega)
    rwa [Nat.mul_one] at this
  | r :: L, h, i + 1, n, hi, hn => by
    have hr := h r (by simp)
    have ih := cc_get (L := L) (fun r hr => h r (by simp [hr])) (i := i) (n := n) (by simpa using hi) hn
    show (ldv r ++ cc L)[(i + 1) * 3 + n]? = some (iv (nth (nth L i) n : Nat))
    rw [List.getElem?_append_right (by rw [ldv_len, hr]; omega), ldv_len, hr, show (i + 1) * 3 + n - 3 = i * 3 + n from by omega]
    exact ih
theorem co_rows : ∀ r ∈ coL 27, r.length = 3 := fun r hr => of_decide_eq_true (List.all_eq_true.1 (show ((coL 27).all fun r => decide (r.length = 3)) = true by decide +kernel) r hr)
theorem co_len : (coL 27).length = 13 := by decide +kernel
theorem co_le {i n : Nat} (hi : i < 13) (hn : n < 3) : nth (nth (coL 27) i) n ≤ 2 := by
  have h : ((List.range 13).all fun i => (List.range 3).all fun n => Nat.ble (nth (nth (coL 27) i) n) 2) = true := by decide +kernel
  exact Nat.le_of_ble_eq_true (List.all_eq_true.1 (List.all_eq_true.1 h i (List.mem_range.2 hi)) n (List.mem_range.2 hn))
theorem cc_len {L : List (List Nat)} (h : ∀ r ∈ L, r.length = 3) : (cc L).length = L.length * 3 := by
  induction L with
  | nil => rfl
  | cons r L ih =>
    have hr := h r (by simp)
    show (ldv r ++ cc L).length = _
    rw [List.length_append, ldv_len, hr, ih fun r hr => h r (by simp [hr]), List.length_cons]; omega
set_option maxHeartbeats 2000000 in
theorem rproj3_n (w : World) : Calls Try.prog 56 #[iv 3] w fun e w' => ∃ u M, e = .returned u ∧ H w M w' ∧ ∃ A c, u = .agg #[iv 13, .slice A 13 c] ∧ M = [] := by
  have hco := fun w => coords3_n w
  have hge : ∀ {i n : Nat}, i < 13 → n < 3 → (cc (coL 27))[i * 3 + n]? = some (iv (nth (nth (coL 27) i) n : Nat)) := fun hi hn => cc_get co_rows (by rw [co_len]; exact hi) hn
  have hll := cc_len co_rows
  have hle : ∀ {i n : Nat}, i < 13 → n < 3 → nth (nth (coL 27) i) n ≤ 2 := co_le
  rw [co_len] at hll
  simp only [co_len] at hco
  generalize coL 27 = L at *
  refine calls_wcG (args := [iv 3]) [.cell 2 44] [] Try.func56 rfl Try.ntmps56 rfl rfl (H.refl _) ?_
  refine WC.seq fun K hK => ?_
  refine WC.region rfl ?_
  refine WL.want rfl (WL1.alloc rfl rfl rfl rfl (fun b2 => ?_))
  refine WL.nil ?_
  (refine hK _ _ ?_; clear hK)
  refine WC.seq fun K hK => ?_
  refine WC.region rfl ?_
  refine wG rfl rfl (g_move rfl (.mk (v := .int _ _) rfl rfl)) ?_
  (refine WL.want rfl (WL1.callN rfl rfl rfl (.cons (.mk (v := .int _ _) rfl rfl) .nil) (fun w hw => hco w) ?_); rintro _ _ ⟨Al, cl, rfl, rfl⟩)
  refine wG rfl rfl (g_assign rfl (.mk (v := .slice _ _ _) rfl rfl)) ?_
  refine WL.nil ?_
  (refine hK _ _ ?_; clear hK)
  refine WC.seq fun K hK => ?_
  refine WC.region rfl ?_
  refine wG rfl rfl (g_move rfl (.mk (v := .slice _ _ _) rfl rfl)) ?_
  refine wG rfl rfl (g_len rfl (.mk rfl rfl) rfl) ?_
  refine wG rfl rfl (g_build (cs := [_, _]) rfl rfl rfl rfl (.cons (.mk (v := .int _ _) rfl rfl) .nil) rfl rfl rfl) ?_
  refine WL.want rfl (WL1.alloc rfl rfl rfl rfl (fun b4 => ?_))
  refine WL.want rfl (WL1.storeAll rfl rfl (.mk rfl rfl) (.mk rfl rfl) rfl (all1 rfl) (by first | rfl | (simp [Blk.len]; done)) (.head) ?_)
  refine WL.nil ?_
  (refine hK _ _ ?_; clear hK)
  refine WC.seq fun K hK => ?_
  refine WC.seq fun K hK => ?_
  refine WC.region rfl ?_
  refine wG rfl rfl (g_assign rfl (.mk (v := .int _ _) rfl rfl)) ?_
  refine WL.nil ?_
  (refine hK _ _ ?_; clear hK)
  refine WC.block ?_
  refine WC.nilvec 32 1 ?_
  refine WC.loopI3 (1152921504606815200) (fun (i : Nat) (D : Option Addr × Nat) (gv : List Value) => [(5, iv i)]) (fun i D gv => pt b4 DT [iv 13, .slice D.1 gv.length D.2] :: vec D.1 gv.length D.2 32 1 gv :: vec Al 13 cl C3T 3 (cc L) :: pt b2 DT [iv 0, .slice none 0 0] :: []) (fun i _ gv => i ≤ 13 ∧ gv.length = i ∧ ∀ u ∈ gv, u.oneCell' = true) (fun i _ _ => 13 - i) 0 (none, 0) [] ⟨rfl, trivial⟩ (Imp.pick (by repeat (first | exact .head | apply Take.tail)) (Imp.pick (by repeat (first | exact .head | apply Take.tail)) (Imp.pick (by repeat (first | exact .head | apply Take.tail)) (Imp.pick (by repeat (first | exact .head | apply Take.tail)) (Imp.nil _))))) ⟨by omega, rfl, by simp⟩ ?_
  rintro i ⟨A, c⟩ gv U ⟨hi, hgl, hone⟩
  dsimp only
  by_cases hi3 : i < 13
  · refine WC.seq fun K hK => ?_
    refine WC.seq fun K hK => ?_
    refine WC.region rfl ?_
    refine wG rfl rfl (g_move rfl (.mk (v := .int _ _) rfl rfl)) ?_
    refine wG rfl rfl (g_move rfl (.mk (v := .slice _ _ _) rfl rfl)) ?_
    refine wG rfl rfl (g_len rfl (.mk rfl rfl) rfl) ?_
    refine wG rfl rfl (g_lt rfl (.mk rfl rfl) (.mk rfl rfl) (decide_eq_true (by omega))) ?_
    refine WL.nil ?_
    (refine hK _ _ ?_; clear hK)
    refine WC.cond_true (.mk rfl rfl) ?_
    refine WC.skip ?_
    (refine hK _ _ ?_; clear hK)
    refine WC.seq fun K hK => ?_
    refine WC.block ?_
    refine WC.seq fun K hK => ?_
    refine WC.region rfl ?_
    refine wG rfl rfl (g_assign rfl (.mk (v := .slice _ _ _) rfl rfl)) ?_
    refine WL.nil ?_
    (refine hK _ _ ?_; clear hK)
    refine WC.seq fun K hK => ?_
    refine WC.seq fun K hK => ?_
    refine WC.region rfl ?_
    refine wG rfl rfl (g_assign rfl (.mk (v := .int _ _) rfl rfl)) ?_
    refine WL.nil ?_
    (refine hK _ _ ?_; clear hK)
    refine WC.block ?_
    refine WC.nilvec 3 1 ?_
    refine WC.loopI3 (18014398507385792) (fun (k : Nat) (F : Option Addr × Nat) (lv : List Value) => [(7, iv k), (6, .slice F.1 lv.length F.2)]) (fun k F lv => vec F.1 lv.length F.2 3 1 lv :: pt b4 DT [iv 13, .slice A gv.length c] :: vec A gv.length c 32 1 gv :: vec Al 13 cl C3T 3 (cc L) :: pt b2 DT [iv 0, .slice none 0 0] :: []) (fun k _ lv => k ≤ 13 ∧ lv.length ≤ k ∧ ∀ u ∈ lv, u.oneCell' = true) (fun k _ _ => 13 - k) 0 (none, 0) [] ⟨rfl, rfl, trivial⟩ (Imp.refl _) ⟨by omega, by simp, by simp⟩ ?_
    rintro k ⟨F, fc⟩ lv U2 ⟨hk, hlv, hlone⟩
    dsimp only
    by_cases hk3 : k < 13
    · refine WC.seq fun K hK => ?_
      refine WC.seq fun K hK => ?_
      refine WC.region rfl ?_
      refine wG rfl rfl (g_move rfl (.mk (v := .int _ _) rfl rfl)) ?_
      refine wG rfl rfl (g_move rfl (.mk (v := .slice _ _ _) rfl rfl)) ?_
      refine wG rfl rfl (g_len rfl (.mk rfl rfl) rfl) ?_
      refine wG rfl rfl (g_lt rfl (.mk rfl rfl) (.mk rfl rfl) (decide_eq_true (by omega))) ?_
      refine WL.nil ?_
      (refine hK _ _ ?_; clear hK)
      refine WC.cond_true (.mk rfl rfl) ?_
      refine WC.skip ?_
      (refine hK _ _ ?_; clear hK)
      refine WC.seq fun K hK => ?_
      refine WC.block ?_
      refine WC.seq fun K hK => ?_
      refine WC.region rfl ?_
      refine wG rfl rfl (g_assign rfl (.mk (v := .int _ _) rfl rfl)) ?_
      refine WL.nil ?_
      (refine hK _ _ ?_; clear hK)
      refine WC.seq fun K hK => ?_
      refine WC.seq fun K hK => ?_
      refine WC.region rfl ?_
      refine wG rfl rfl (g_assign rfl (.mk (v := .int _ _) rfl rfl)) ?_
      refine WL.nil ?_
      (refine hK _ _ ?_; clear hK)
      refine WC.block ?_
      refine WC.loopI2 (281474842493696) (fun (n : Nat) (s : Nat) => [(9, iv n), (8, iv s)]) (fun _ _ => vec F lv.length fc 3 1 lv :: pt b4 DT [iv 13, .slice A gv.length c] :: vec A gv.length c 32 1 gv :: vec Al 13 cl C3T 3 (cc L) :: pt b2 DT [iv 0, .slice none 0 0] :: []) (fun n s => n ≤ 3 ∧ s ≤ 2) (fun n _ => 3 - n) 0 0 ⟨rfl, rfl, trivial⟩ (Imp.refl _) ⟨by omega, by omega⟩ ?_
      rintro n s U3 ⟨hn, hs⟩
      by_cases hn3 : n < 3
      · have ga := hge hi3 hn3
        have gb := hge hk3 hn3
        have la := hle hi3 hn3
        have lb := hle hk3 hn3
        generalize nth (nth L i) n = a at *
        generalize nth (nth L k) n = b at *
        have hp : a * b % 3 ≤ 2 := by omega
        have hmu := fun w => rmul3_e a b w (by omega) (by omega)
        generalize a * b % 3 = z at *
        have had := fun w => radd3_e s z w (by omega) (by omega)
        have hz2 : (s % 3 + z % 3) % 3 ≤ 2 := by omega
        generalize (s % 3 + z % 3) % 3 = y at *
        have hix : ∀ i n : Nat, i * 3 + n * 1 = i * 3 + n := fun i n => by omega
        rw [← hix] at ga gb
        refine WC.seq fun K hK => ?_
        refine WC.seq fun K hK => ?_
        refine WC.region rfl ?_
        refine wG rfl rfl (g_move rfl (.mk (v := .int _ _) rfl rfl)) ?_
        refine wG rfl rfl (g_lt rfl (.mk rfl rfl) (.mk rfl rfl) (decide_eq_true (by omega))) ?_
        refine WL.nil ?_
        (refine hK _ _ ?_; clear hK)
        refine WC.cond_true (.mk rfl rfl) ?_
        refine WC.skip ?_
        (refine hK _ _ ?_; clear hK)
        refine WC.seq fun K hK => ?_
        refine WC.block ?_
        refine WC.held [vec Al 13 cl C3T 3 (cc L)] rfl (by kernel_rfl) ?_
        refine WH.take 0 rfl (by decide +kernel) (by decide +kernel) (by decide +kernel) rfl rfl (Imp.sub (by first | ((repeat (first | exact List.nil_sublist _ | exact List.Sublist.refl _ | apply List.Sublist.cons_cons | apply List.Sublist.cons)); done) | fail)) (g_move rfl (.mk (v := .int _ _) rfl rfl)) ?_
        refine WH.take 1 rfl (by decide +kernel) (by decide +kernel) (by decide +kernel) rfl rfl (Imp.sub (by first | ((repeat (first | exact List.nil_sublist _ | exact List.Sublist.refl _ | apply List.Sublist.cons_cons | apply List.Sublist.cons)); done) | fail)) (g_move rfl (.mk (v := .int _ _) rfl rfl)) ?_
        refine WH.take 2 rfl (by decide +kernel) (by decide +kernel) (by decide +kernel) rfl rfl (Imp.sub (by first | ((repeat (first | exact List.nil_sublist _ | exact List.Sublist.refl _ | apply List.Sublist.cons_cons | apply List.Sublist.cons)); done) | fail)) (g_move rfl (.mk (v := .int _ _) rfl rfl)) ?_
        refine WH.take 3 rfl (by decide +kernel) (by decide +kernel) (by decide +kernel) rfl rfl (Imp.sub (by first | ((repeat (first | exact List.nil_sublist _ | exact List.Sublist.refl _ | apply List.Sublist.cons_cons | apply List.Sublist.cons)); done) | fail)) (g_move rfl (.mk (v := .slice _ _ _) rfl rfl)) ?_
        refine WH.take 4 rfl (by decide +kernel) (by decide +kernel) (by decide +kernel) rfl rfl (Imp.sub (by first | ((repeat (first | exact List.nil_sublist _ | exact List.Sublist.refl _ | apply List.Sublist.cons_cons | apply List.Sublist.cons)); done) | fail)) (g_move rfl (.mk (v := .int _ _) rfl rfl)) ?_
        refine WH.take 5 rfl (by decide +kernel) (by decide +kernel) (by decide +kernel) rfl rfl (Imp.sub (by first | ((repeat (first | exact List.nil_sublist _ | exact List.Sublist.refl _ | apply List.Sublist.cons_cons | apply List.Sublist.cons)); done) | fail)) (g_move rfl (.mk (v := .int _ _) rfl rfl)) ?_
        refine WH.take 6 rfl (by decide +kernel) (by decide +kernel) (by decide +kernel) rfl rfl (Imp.sub (by first | ((repeat (first | exact List.nil_sublist _ | exact List.Sublist.refl _ | apply List.Sublist.cons_cons | apply List.Sublist.cons)); done) | fail)) (g_indexAddr (sz := 3) rfl (.mk rfl rfl) (.mk rfl rfl) rfl rfl rfl (by omega) (fun w hw => vec_some hw (.head _) (by omega))) ?_
        refine WH.take 7 rfl (by decide +kernel) (by decide +kernel) (by decide +kernel) rfl rfl (Imp.sub (by first | ((repeat (first | exact List.nil_sublist _ | exact List.Sublist.refl _ | apply List.Sublist.cons_cons | apply List.Sublist.cons)); done) | fail)) (g_indexAddrA (sz := 1) rfl (.mk rfl rfl) (.mk rfl rfl) rfl rfl rfl (by omega) (fun w hw => vec_some hw (.head _) (by omega))) ?_
        refine WH.take 8 rfl (by decide +kernel) (by decide +kernel) (by decide +kernel) rfl rfl (Imp.sub (by first | ((repeat (first | exact List.nil_sublist _ | exact List.Sublist.refl _ | apply List.Sublist.cons_cons | apply List.Sublist.cons)); done) | fail)) (g_load rfl (.mk rfl rfl) rfl (rd_vec (by first | ((repeat (first | exact .head _ | apply List.Mem.tail)); done) | fail) ga)) ?_
        refine WH.take 9 rfl (by decide +kernel) (by decide +kernel) (by decide +kernel) rfl rfl (Imp.sub (by first | ((repeat (first | exact List.nil_sublist _ | exact List.Sublist.refl _ | apply List.Sublist.cons_cons | apply List.Sublist.cons)); done) | fail)) (g_move rfl (.mk (v := .slice _ _ _) rfl rfl)) ?_
        refine WH.take 10 rfl (by decide +kernel) (by decide +kernel) (by decide +kernel) rfl rfl (Imp.sub (by first | ((repeat (first | exact List.nil_sublist _ | exact List.Sublist.refl _ | apply List.Sublist.cons_cons | apply List.Sublist.cons)); done) | fail)) (g_move rfl (.mk (v := .int _ _) rfl rfl)) ?_
        refine WH.take 11 rfl (by decide +kernel) (by decide +kernel) (by decide +kernel) rfl rfl (Imp.sub (by first | ((repeat (first | exact List.nil_sublist _ | exact List.Sublist.refl _ | apply List.Sublist.cons_cons | apply List.Sublist.cons)); done) | fail)) (g_move rfl (.mk (v := .int _ _) rfl rfl)) ?_
        refine WH.take 12 rfl (by decide +kernel) (by decide +kernel) (by decide +kernel) rfl rfl (Imp.sub (by first | ((repeat (first | exact List.nil_sublist _ | exact List.Sublist.refl _ | apply List.Sublist.cons_cons | apply List.Sublist.cons)); done) | fail)) (g_indexAddr (sz := 3) rfl (.mk rfl rfl) (.mk rfl rfl) rfl rfl rfl (by omega) (fun w hw => vec_some hw (.head _) (by omega))) ?_
        refine WH.take 13 rfl (by decide +kernel) (by decide +kernel) (by decide +kernel) rfl rfl (Imp.sub (by first | ((repeat (first | exact List.nil_sublist _ | exact List.Sublist.refl _ | apply List.Sublist.cons_cons | apply List.Sublist.cons)); done) | fail)) (g_indexAddrA (sz := 1) rfl (.mk rfl rfl) (.mk rfl rfl) rfl rfl rfl (by omega) (fun w hw => vec_some hw (.head _) (by omega))) ?_
        refine WH.take 14 rfl (by decide +kernel) (by decide +kernel) (by decide +kernel) rfl rfl (Imp.sub (by first | ((repeat (first | exact List.nil_sublist _ | exact List.Sublist.refl _ | apply List.Sublist.cons_cons | apply List.Sublist.cons)); done) | fail)) (g_load rfl (.mk rfl rfl) rfl (rd_vec (by first | ((repeat (first | exact .head _ | apply List.Mem.tail)); done) | fail) gb)) ?_
        refine WH.one 15 (by decide +kernel) rfl rfl ?_
        refine WL1.callP rfl rfl rfl (.cons (.mk (v := .int _ _) rfl rfl) (.cons (.mk (v := .int _ _) rfl rfl) (.cons (.mk (v := .int _ _) rfl rfl) .nil))) (fun w hw => hmu w) ?_
        refine WL.nil ?_
        refine ⟨(Imp.sub (by first | ((repeat (first | exact List.nil_sublist _ | exact List.Sublist.refl _ | apply List.Sublist.cons_cons | apply List.Sublist.cons)); done) | fail)), ?_⟩
        refine WH.one 16 (by decide +kernel) rfl rfl ?_
        refine WL1.callP rfl rfl rfl (.cons (.mk (v := .int _ _) rfl rfl) (.cons (.mk (v := .int _ _) rfl rfl) (.cons (.mk (v := .int _ _) rfl rfl) .nil))) (fun w hw => had w) ?_
        refine WL.nil ?_
        refine ⟨(Imp.sub (by first | ((repeat (first | exact List.nil_sublist _ | exact List.Sublist.refl _ | apply List.Sublist.cons_cons | apply List.Sublist.cons)); done) | fail)), ?_⟩
        refine WH.take 17 rfl (by decide +kernel) (by decide +kernel) (by decide +kernel) rfl rfl (Imp.sub (by first | ((repeat (first | exact List.nil_sublist _ | exact List.Sublist.refl _ | apply List.Sublist.cons_cons | apply List.Sublist.cons)); done) | fail)) (g_assign rfl (.mk (v := .int _ _) rfl rfl)) ?_
        refine WH.done (by decide +kernel) ?_
        (refine hK _ _ ?_; clear hK)
        refine WC.region rfl ?_
        refine wG rfl rfl (g_move rfl (.mk (v := .int _ _) rfl rfl)) ?_
        refine wG rfl rfl (g_add rfl (.mk rfl rfl) (.mk rfl rfl) (IntWalk.i64_in _ (by omega))) ?_
        refine wG rfl rfl (g_assign rfl (.mk (v := .int _ _) rfl rfl)) ?_
        refine WL.nil ?_
        exact ⟨n + 1, y, (by repeat (first | with_reducible exact Out.refl _ _ | refine Out.set rfl ?_ | refine Out.put rfl ?_ | refine Out.sets rfl ?_ | refine Out.hav rfl ?_ | exact Out.refl _ _)), ⟨rfl, rfl, trivial⟩, Imp.refl _, ⟨by omega, by omega⟩, by omega⟩
      · by_cases h0 : s = 0
        · refine WC.seq fun K hK => ?_
          refine WC.seq fun K hK => ?_
          refine WC.region rfl ?_
          refine wG rfl rfl (g_move rfl (.mk (v := .int _ _) rfl rfl)) ?_
          refine wG rfl rfl (g_lt rfl (.mk rfl rfl) (.mk rfl rfl) (decide_eq_false (by omega))) ?_
          refine WL.nil ?_
          (refine hK _ _ ?_; clear hK)
          refine WC.cond_false (.mk rfl rfl) ?_
          refine WC.exit ?_
          (clear hK; refine hK _ _ ?_; clear hK)
          refine WC.seq fun K hK => ?_
          refine WC.region rfl ?_
          refine wG rfl rfl (g_move rfl (.mk (v := .int _ _) rfl rfl)) ?_
          refine wG rfl rfl (g_eq rfl (.mk rfl rfl) (.mk rfl rfl) (decide_eq_true (by omega))) ?_
          refine WL.nil ?_
          (refine hK _ _ ?_; clear hK)
          refine WC.cond_true (.mk rfl rfl) ?_
          refine WC.region rfl ?_
          refine wG rfl rfl (g_move rfl (.mk (v := .slice _ _ _) rfl rfl)) ?_
          refine wG rfl rfl (g_move rfl (.mk (v := .int _ _) rfl rfl)) ?_
          refine WL.want rfl (WL1.lit (cs := [_]) elI rfl rfl rfl (.cons (.mk (v := .int _ _) rfl rfl) .nil) rfl (by first | (simp [Value.cells]; done) | fail) rfl rfl (fun b52 => ?_))
          refine WL.want rfl (WL1.append elI rfl rfl (.mk rfl rfl) (.mk rfl rfl) (.tail (.head)) (fun w hw => Sl.of_vec hw (.head _)) (all1 rfl) (by unfold maxLen; omega) (by omega) (fun A53 c53 => ?_))
          refine wG rfl rfl (g_assign rfl (.mk (v := .slice _ _ _) rfl rfl)) ?_
          refine WL.nil ?_
          (refine hK _ _ ?_; clear hK)
          refine WC.region rfl ?_
          refine wG rfl rfl (g_move rfl (.mk (v := .int _ _) rfl rfl)) ?_
          refine wG rfl rfl (g_add rfl (.mk rfl rfl) (.mk rfl rfl) (IntWalk.i64_in _ (by omega))) ?_
          refine wG rfl rfl (g_assign rfl (.mk (v := .int _ _) rfl rfl)) ?_
          refine WL.nil ?_
          refine ⟨k + 1, (A53, c53), lv ++ [iv k], (by repeat (first | with_reducible exact Out.refl _ _ | refine Out.set rfl ?_ | refine Out.put rfl ?_ | refine Out.sets rfl ?_ | refine Out.hav rfl ?_ | exact Out.refl _ _)), ⟨rfl, by rw [List.length_append]; rfl, trivial⟩, ?_, ⟨by omega, by rw [List.length_append]; simp; omega, fun u hu => ?_⟩, by omega⟩
          · dsimp only
            rw [List.length_append]
            exact Imp.pick (by repeat (first | exact .head | apply Take.tail)) (Imp.pick (by repeat (first | exact .head | apply Take.tail)) (Imp.pick (by repeat (first | exact .head | apply Take.tail)) (Imp.pick (by repeat (first | exact .head | apply Take.tail)) (Imp.pick (by repeat (first | exact .head | apply Take.tail)) (Imp.nil _)))))
          · rcases List.mem_append.1 hu with hu | hu
            · exact hlone u hu
            · rw [List.mem_singleton] at hu; rw [hu]; rfl
        · refine WC.seq fun K hK => ?_
          refine WC.seq fun K hK => ?_
          refine WC.region rfl ?_
          refine wG rfl rfl (g_move rfl (.mk (v := .int _ _) rfl rfl)) ?_
          refine wG rfl rfl (g_lt rfl (.mk rfl rfl) (.mk rfl rfl) (decide_eq_false (by omega))) ?_
          refine WL.nil ?_
          (refine hK _ _ ?_; clear hK)
          refine WC.cond_false (.mk rfl rfl) ?_
          refine WC.exit ?_
          (clear hK; refine hK _ _ ?_; clear hK)
          refine WC.seq fun K hK => ?_
          refine WC.region rfl ?_
          refine wG rfl rfl (g_move rfl (.mk (v := .int _ _) rfl rfl)) ?_
          refine wG rfl rfl (g_eq rfl (.mk rfl rfl) (.mk rfl rfl) (decide_eq_false (by omega))) ?_
          refine WL.nil ?_
          (refine hK _ _ ?_; clear hK)
          refine WC.cond_false (.mk rfl rfl) ?_
          refine WC.skip ?_
          (refine hK _ _ ?_; clear hK)
          refine WC.region rfl ?_
          refine wG rfl rfl (g_move rfl (.mk (v := .int _ _) rfl rfl)) ?_
          refine wG rfl rfl (g_add rfl (.mk rfl rfl) (.mk rfl rfl) (IntWalk.i64_in _ (by omega))) ?_
          refine wG rfl rfl (g_assign rfl (.mk (v := .int _ _) rfl rfl)) ?_
          refine WL.nil ?_
          exact ⟨k + 1, (F, fc), lv, (by repeat (first | with_reducible exact Out.refl _ _ | refine Out.set rfl ?_ | refine Out.put rfl ?_ | refine Out.sets rfl ?_ | refine Out.hav rfl ?_ | exact Out.refl _ _)), ⟨rfl, rfl, trivial⟩, Imp.refl _, ⟨by omega, by omega, hlone⟩, by omega⟩
    · obtain rfl : k = 13 := by omega
      refine WC.seq fun K hK => ?_
      refine WC.seq fun K hK => ?_
      refine WC.region rfl ?_
      refine wG rfl rfl (g_move rfl (.mk (v := .int _ _) rfl rfl)) ?_
      refine wG rfl rfl (g_move rfl (.mk (v := .slice _ _ _) rfl rfl)) ?_
      refine wG rfl rfl (g_len rfl (.mk rfl rfl) rfl) ?_
      refine wG rfl rfl (g_lt rfl (.mk rfl rfl) (.mk rfl rfl) (decide_eq_false (by omega))) ?_
      refine WL.nil ?_
      (refine hK _ _ ?_; clear hK)
      refine WC.cond_false (.mk rfl rfl) ?_
      refine WC.exit ?_
      (clear hK; refine hK _ _ ?_; clear hK)
      refine WC.region rfl ?_
      refine wG rfl rfl (g_fieldAddr (off := 1) rfl (.mk rfl rfl) rfl (fun _ _ => rfl)) ?_
      refine wG rfl rfl (g_load rfl (.mk rfl rfl) rfl (rd_pt (.tail _ (.head _)) rfl)) ?_
      refine wG rfl rfl (g_move rfl (.mk (v := .slice _ _ _) rfl rfl)) ?_
      refine WL.want rfl (WL1.lit (cs := [_]) elRI rfl rfl rfl (.cons (.mk (v := .slice _ _ _) rfl rfl) .nil) rfl (by first | (simp [Value.cells]; done) | fail) rfl rfl (fun b57 => ?_))
      refine WL.want rfl (WL1.append elRI rfl rfl (.mk rfl rfl) (.mk rfl rfl) (.tail (.tail (.tail (.head)))) (fun w hw => Sl.of_vec hw (.head _)) (all1 rfl) (by unfold maxLen; omega) (by omega) (fun A58 c58 => ?_))
      refine wG rfl rfl (g_fieldAddr (off := 1) rfl (.mk rfl rfl) rfl (fun _ _ => rfl)) ?_
      refine WL.want rfl (WL1.store1 rfl rfl (.mk rfl rfl) (.mk (v := .slice _ _ _) rfl rfl) rfl rfl (Nat.le_of_ble_eq_true rfl) (.tail (.tail (.tail (.head)))) ?_)
      refine WL.nil ?_
      (refine hK _ _ ?_; clear hK)
      refine WC.region rfl ?_
      refine wG rfl rfl (g_move rfl (.mk (v := .int _ _) rfl rfl)) ?_
      refine wG rfl rfl (g_add rfl (.mk rfl rfl) (.mk rfl rfl) (IntWalk.i64_in _ (by omega))) ?_
      refine wG rfl rfl (g_assign rfl (.mk (v := .int _ _) rfl rfl)) ?_
      refine WL.nil ?_
      refine ⟨i + 1, (A58, c58), gv ++ [Value.slice F lv.length fc], (by repeat (first | with_reducible exact Out.refl _ _ | refine Out.set rfl ?_ | refine Out.put rfl ?_ | refine Out.sets rfl ?_ | refine Out.hav rfl ?_ | exact Out.refl _ _)), ⟨rfl, trivial⟩, ?_, ⟨by omega, by rw [List.length_append, hgl]; rfl, fun u hu => ?_⟩, by omega⟩
      · dsimp only
        rw [List.length_append]
        exact Imp.pick (by repeat (first | exact .head | apply Take.tail)) (Imp.pick (by repeat (first | exact .head | apply Take.tail)) (Imp.pick (by repeat (first | exact .head | apply Take.tail)) (Imp.pick (by repeat (first | exact .head | apply Take.tail)) (Imp.nil _))))
      · rcases List.mem_append.1 hu with hu | hu
        · exact hone u hu
        · rw [List.mem_singleton] at hu; rw [hu]; rfl
  · obtain rfl : i = 13 := by omega
    rw [hgl]
    refine WC.seq fun K hK => ?_
    refine WC.seq fun K hK => ?_
    refine WC.region rfl ?_
    refine wG rfl rfl (g_move rfl (.mk (v := .int _ _) rfl rfl)) ?_
    refine wG rfl rfl (g_move rfl (.mk (v := .slice _ _ _) rfl rfl)) ?_
    refine wG rfl rfl (g_len rfl (.mk rfl rfl) rfl) ?_
    refine wG rfl rfl (g_lt rfl (.mk rfl rfl) (.mk rfl rfl) (decide_eq_false (by omega))) ?_
    refine WL.nil ?_
    (refine hK _ _ ?_; clear hK)
    refine WC.cond_false (.mk rfl rfl) ?_
    refine WC.exit ?_
    (clear hK; refine hK _ _ ?_; clear hK)
    refine WC.seq fun K hK => ?_
    refine WC.region rfl ?_
    refine wG rfl rfl (g_loadA rfl (.mk rfl rfl) rfl rfl (rdr_pt (.head _) (fun j u h => by simpa using h))) ?_
    refine WL.want rfl (WL1.storeAll rfl rfl (.mk rfl rfl) (.mk rfl rfl) rfl (all1 rfl) (by first | rfl | (simp [Blk.len]; done)) (.tail (.tail (.tail (.head)))) ?_)
    refine WL.nil ?_
    (refine hK _ _ ?_; clear hK)
    refine WC.ret ?_
    exact ⟨_, .cell rfl rfl rfl rfl (by first | ((repeat (first | exact .head _ | apply List.Mem.tail)); done) | fail) .nil, fun w' hw' => ⟨_, _, rfl, hw'.sub (List.nil_sublist _), A, c, rfl, rfl⟩⟩
set_option maxHeartbeats 2000000 in
theorem rchoose_13 (w : World) : Calls Try.prog 33 #[iv 13, iv 4] w fun e w' => ∃ u M, e = .returned u ∧ H w M w' ∧ ∃ A c, u = .tuple #[.agg #[iv 13, .slice A 13 c], iv 0] ∧ M = [] := by
  refine calls_wcG (args := [iv 13, iv 4]) [.cell 4 44, .tmp 5] [] Try.func33 rfl Try.ntmps33 rfl rfl (H.refl _) ?_
  refine WC.seq fun K hK => ?_
  refine WC.region rfl ?_
  refine WL.want rfl (WL1.alloc rfl rfl rfl rfl (fun b4 => ?_))
  refine wG rfl rfl (g_assign rfl (.mk (v := .int _ _) rfl rfl)) ?_
  refine WL.nil ?_
  (refine hK _ _ ?_; clear hK)
  refine WC.seq fun K hK => ?_
  refine WC.seq fun K hK => ?_
  refine WC.region rfl ?_
  refine wG rfl rfl (g_move rfl (.mk (v := .int _ _) rfl rfl)) ?_
  refine wG rfl rfl (g_lt rfl (.mk rfl rfl) (.mk rfl rfl) (decide_eq_false (by omega))) ?_
  refine wG rfl rfl (g_move rfl (.mk (v := .bool _) rfl rfl)) ?_
  refine WL.wantG rfl rfl rfl rfl (WL1.give rfl (g_move rfl (.mk (v := .int _ _) rfl rfl)) ?_)
  refine WL.wantG rfl rfl rfl rfl (WL1.give rfl (g_gt rfl (.mk rfl rfl) (.mk rfl rfl) (decide_eq_false (by omega))) ?_)
  refine wG rfl rfl (g_pickF rfl (.mk rfl rfl) (.mk (v := .bool _) rfl rfl)) ?_
  refine wG rfl rfl (g_move rfl (.mk (v := .bool _) rfl rfl)) ?_
  refine WL.wantG rfl rfl rfl rfl (WL1.give rfl (g_move rfl (.mk (v := .int _ _) rfl rfl)) ?_)
  refine WL.wantG rfl rfl rfl rfl (WL1.give rfl (g_move rfl (.mk (v := .int _ _) rfl rfl)) ?_)
  refine WL.wantG rfl rfl rfl rfl (WL1.give rfl (g_lt rfl (.mk rfl rfl) (.mk rfl rfl) (decide_eq_false (by omega))) ?_)
  refine wG rfl rfl (g_pickF rfl (.mk rfl rfl) (.mk (v := .bool _) rfl rfl)) ?_
  refine wG rfl rfl (g_move rfl (.mk (v := .bool _) rfl rfl)) ?_
  refine WL.wantG rfl rfl rfl rfl (WL1.give rfl (g_move rfl (.mk (v := .int _ _) rfl rfl)) ?_)
  refine WL.wantG rfl rfl rfl rfl (WL1.give rfl (g_gt rfl (.mk rfl rfl) (.mk rfl rfl) (decide_eq_false (by omega))) ?_)
  refine wG rfl rfl (g_pickF rfl (.mk rfl rfl) (.mk (v := .bool _) rfl rfl)) ?_
  refine WL.nil ?_
  (refine hK _ _ ?_; clear hK)
  refine WC.cond_false (.mk rfl rfl) ?_
  refine WC.skip ?_
  (refine hK _ _ ?_; clear hK)
  refine WC.seq fun K hK => ?_
  refine WC.region rfl ?_
  refine WL.want rfl (WL1.lit (cs := [_, _, _, _, _]) elI rfl rfl rfl (.cons (.mk (v := .int _ _) rfl rfl) (.cons (.mk (v := .int _ _) rfl rfl) (.cons (.mk (v := .int _ _) rfl rfl) (.cons (.mk (v := .int _ _) rfl rfl) (.cons (.mk (v := .int _ _) rfl rfl) .nil))))) rfl (by first | (simp [Value.cells]; done) | fail) rfl rfl (fun b27 => ?_))
  refine wG rfl rfl (g_assign rfl (.mk (v := .slice _ _ _) rfl rfl)) ?_
  refine WL.nil ?_
  (refine hK _ _ ?_; clear hK)
  refine WC.seq fun K hK => ?_
  refine WC.seq fun K hK => ?_
  refine WC.region rfl ?_
  refine wG rfl rfl (g_assign rfl (.mk (v := .int _ _) rfl rfl)) ?_
  refine WL.nil ?_
  (refine hK _ _ ?_; clear hK)
  refine WC.block ?_
  refine WC.loop (18014398241046944) (fun i : Nat => [(7, iv i)]) (fun _ => [vec (some ⟨b27, 0, none⟩) 5 5 3 1 [iv 2, iv 3, iv 4, iv 5, iv 7], pt b4 DT [iv 0, .slice none 0 0]]) (fun i => i ≤ 1) (fun i => 5 - i) 0 ⟨rfl, trivial⟩ (.refl _) (by omega) ?_
  intro i U hi
  obtain rfl | rfl : i = 0 ∨ i = 1 := by omega
  · refine WC.seq fun K hK => ?_
    refine WC.seq fun K hK => ?_
    refine WC.region rfl ?_
    refine wG rfl rfl (g_move rfl (.mk (v := .int _ _) rfl rfl)) ?_
    refine wG rfl rfl (g_move rfl (.mk (v := .slice _ _ _) rfl rfl)) ?_
    refine wG rfl rfl (g_len rfl (.mk rfl rfl) rfl) ?_
    refine wG rfl rfl (g_lt rfl (.mk rfl rfl) (.mk rfl rfl) (decide_eq_true (by omega))) ?_
    refine WL.nil ?_
    (refine hK _ _ ?_; clear hK)
    refine WC.cond_true (.mk rfl rfl) ?_
    refine WC.skip ?_
    (refine hK _ _ ?_; clear hK)
    refine WC.seq fun K hK => ?_
    refine WC.block ?_
    refine WC.seq fun K hK => ?_
    refine WC.region rfl ?_
    refine wG rfl rfl (g_move rfl (.mk (v := .slice _ _ _) rfl rfl)) ?_
    refine wG rfl rfl (g_move rfl (.mk (v := .int _ _) rfl rfl)) ?_
    refine wG rfl rfl (g_indexAddr (sz := 1) rfl (.mk rfl rfl) (.mk rfl rfl) rfl rfl (show _ = ((0 : Nat) : Int) from rfl) (by omega) (fun _ _ => rfl)) ?_
    refine wG rfl rfl (g_load rfl (.mk rfl rfl) rfl (rd_vec (.head _) rfl)) ?_
    refine wG rfl rfl (g_assign rfl (.mk (v := .int _ _) rfl rfl)) ?_
    refine WL.nil ?_
    (refine hK _ _ ?_; clear hK)
    refine WC.seq fun K hK => ?_
    refine WC.region rfl ?_
    refine wG rfl rfl (g_move rfl (.mk (v := .int _ _) rfl rfl)) ?_
    refine wG rfl rfl (g_move rfl (.mk (v := .int _ _) rfl rfl)) ?_
    refine wG rfl rfl (g_move rfl (.mk (v := .int _ _) rfl rfl)) ?_
    refine wG rfl rfl (g_mul rfl (.mk rfl rfl) (.mk rfl rfl) (IntWalk.i64_in _ (by omega))) ?_
    refine wG rfl rfl (g_move rfl (.mk (v := .int _ _) rfl rfl)) ?_
    refine wG rfl rfl (g_add rfl (.mk rfl rfl) (.mk rfl rfl) (IntWalk.i64_in _ (by omega))) ?_
    refine wG rfl rfl (g_add rfl (.mk rfl rfl) (.mk rfl rfl) (IntWalk.i64_in _ (by omega))) ?_
    refine wG rfl rfl (g_eq rfl (.mk rfl rfl) (.mk rfl rfl) (decide_eq_false (by omega))) ?_
    refine wG rfl rfl (g_move rfl (.mk (v := .bool _) rfl rfl)) ?_
    refine WL.skipG rfl rfl rfl rfl rfl rfl ?_
    refine WL.skipG rfl rfl rfl rfl rfl rfl ?_
    refine WL.skipG rfl rfl rfl rfl rfl rfl ?_
    refine WL.skipG rfl rfl rfl rfl rfl rfl ?_
    refine wG rfl rfl (g_pickF rfl (.mk rfl rfl) (.mk (v := .bool _) rfl rfl)) ?_
    refine WL.nil ?_
    (refine hK _ _ ?_; clear hK)
    refine WC.cond_false (.mk rfl rfl) ?_
    refine WC.skip ?_
    (refine hK _ _ ?_; clear hK)
    refine WC.region rfl ?_
    refine wG rfl rfl (g_move rfl (.mk (v := .int _ _) rfl rfl)) ?_
    refine wG rfl rfl (g_add rfl (.mk rfl rfl) (.mk rfl rfl) (IntWalk.i64_in _ (by omega))) ?_
    refine wG rfl rfl (g_assign rfl (.mk (v := .int _ _) rfl rfl)) ?_
    refine WL.nil ?_
    exact ⟨1, (by repeat (first | with_reducible exact Out.refl _ _ | refine Out.set rfl ?_ | refine Out.put rfl ?_ | refine Out.sets rfl ?_ | refine Out.hav rfl ?_ | exact Out.refl _ _)), ⟨rfl, trivial⟩, .refl _, by omega, by omega⟩
  · refine WC.seq fun K hK => ?_
    refine WC.seq fun K hK => ?_
    refine WC.region rfl ?_
    refine wG rfl rfl (g_move rfl (.mk (v := .int _ _) rfl rfl)) ?_
    refine wG rfl rfl (g_move rfl (.mk (v := .slice _ _ _) rfl rfl)) ?_
    refine wG rfl rfl (g_len rfl (.mk rfl rfl) rfl) ?_
    refine wG rfl rfl (g_lt rfl (.mk rfl rfl) (.mk rfl rfl) (decide_eq_true (by omega))) ?_
    refine WL.nil ?_
    (refine hK _ _ ?_; clear hK)
    refine WC.cond_true (.mk rfl rfl) ?_
    refine WC.skip ?_
    (refine hK _ _ ?_; clear hK)
    refine WC.seq fun K hK => ?_
    refine WC.block ?_
    refine WC.seq fun K hK => ?_
    refine WC.region rfl ?_
    refine wG rfl rfl (g_move rfl (.mk (v := .slice _ _ _) rfl rfl)) ?_
    refine wG rfl rfl (g_move rfl (.mk (v := .int _ _) rfl rfl)) ?_
    refine wG rfl rfl (g_indexAddr (sz := 1) rfl (.mk rfl rfl) (.mk rfl rfl) rfl rfl (show _ = ((1 : Nat) : Int) from rfl) (by omega) (fun _ _ => rfl)) ?_
    refine wG rfl rfl (g_load rfl (.mk rfl rfl) rfl (rd_vec (.head _) rfl)) ?_
    refine wG rfl rfl (g_assign rfl (.mk (v := .int _ _) rfl rfl)) ?_
    refine WL.nil ?_
    (refine hK _ _ ?_; clear hK)
    refine WC.seq fun K hK => ?_
    refine WC.region rfl ?_
    refine wG rfl rfl (g_move rfl (.mk (v := .int _ _) rfl rfl)) ?_
    refine wG rfl rfl (g_move rfl (.mk (v := .int _ _) rfl rfl)) ?_
    refine wG rfl rfl (g_move rfl (.mk (v := .int _ _) rfl rfl)) ?_
    refine wG rfl rfl (g_mul rfl (.mk rfl rfl) (.mk rfl rfl) (IntWalk.i64_in _ (by omega))) ?_
    refine wG rfl rfl (g_move rfl (.mk (v := .int _ _) rfl rfl)) ?_
    refine wG rfl rfl (g_add rfl (.mk rfl rfl) (.mk rfl rfl) (IntWalk.i64_in _ (by omega))) ?_
    refine wG rfl rfl (g_add rfl (.mk rfl rfl) (.mk rfl rfl) (IntWalk.i64_in _ (by omega))) ?_
    refine wG rfl rfl (g_eq rfl (.mk rfl rfl) (.mk rfl rfl) (decide_eq_true (by omega))) ?_
    refine wG rfl rfl (g_move rfl (.mk (v := .bool _) rfl rfl)) ?_
    refine WL.wantG rfl rfl rfl rfl (WL1.give rfl (g_move rfl (.mk (v := .int _ _) rfl rfl)) ?_)
    refine WL.wantG rfl rfl rfl rfl (WL1.give rfl (g_move rfl (.mk (v := .int _ _) rfl rfl)) ?_)
    refine WL.wantG rfl rfl rfl rfl (WL1.give rfl (g_add rfl (.mk rfl rfl) (.mk rfl rfl) (IntWalk.i64_in _ (by omega))) ?_)
    refine WL.wantG rfl rfl rfl rfl (WL1.give rfl (g_eq rfl (.mk rfl rfl) (.mk rfl rfl) (decide_eq_true (by omega))) ?_)
    refine wG rfl rfl (g_pickT rfl (.mk rfl rfl) (.mk (v := .bool _) rfl rfl)) ?_
    refine WL.nil ?_
    (refine hK _ _ ?_; clear hK)
    refine WC.cond_true (.mk rfl rfl) ?_
    refine WC.seq fun K hK => ?_
    refine WC.region rfl ?_
    refine wG rfl rfl (g_move rfl (.mk (v := .int _ _) rfl rfl)) ?_
    (refine WL.want rfl (WL1.callN rfl rfl rfl (.cons (.mk (v := .int _ _) rfl rfl) .nil) (fun w hw => rproj3_n w) ?_); rintro _ _ ⟨A, c, rfl, rfl⟩)
    refine WL.want rfl (WL1.storeAll rfl rfl (.mk rfl rfl) (.mk rfl rfl) rfl (all1 rfl) (by first | rfl | (simp [Blk.len]; done)) (.tail (.head)) ?_)
    refine wG rfl rfl (g_assign rfl (.mk (v := .int _ _) rfl rfl)) ?_
    refine WL.nil ?_
    (refine hK _ _ ?_; clear hK)
    refine WC.ret ?_
    exact ⟨_, .cell rfl rfl rfl rfl (by first | ((repeat (first | exact .head _ | apply List.Mem.tail)); done) | fail) (.tmp rfl rfl .nil), fun w' hw' => ⟨_, _, rfl, hw'.sub (List.nil_sublist _), A, c, rfl, rfl⟩⟩
end Go.Proofs.Ytdcijljfgcjelaa
namespace Go.Proofs.Ytdcijljfgcjelaa
set_option maxRecDepth 20000
open Go.RowKit
attribute [local irreducible] Calls
abbrev backI (b : Nat) : Value := .func (.func 92) #[] #[bpv b]
theorem backI_n (A : Option Addr) (n c : Nat) (w : World) : Calls Try.prog 91 #[.slice A n c] w fun e w' => ∃ v M, e = .returned v ∧ H w M w' ∧ ∃ b, v = backI b ∧ M = [pt b 32 [.slice A n c]] := by
  refine calls_wc (args := [.slice A n c]) [2] [] Try.func91 rfl Try.ntmps91 rfl rfl rfl rfl (H.refl _) ?_
  refine WC.seq fun K hK => ?_
  refine WC.region rfl ?_
  refine WL.want rfl (WL1.box rfl rfl (.mk (v := .slice _ _ _) rfl rfl) rfl (fun b1 => ?_))
  refine wG rfl rfl (g_assign rfl (.mk rfl (by conv => lhs; whnf))) ?_
  refine WL.nil ?_
  (refine hK _ _ ?_; clear hK)
  refine WC.seq fun K hK => ?_
  refine WC.region rfl ?_
  refine wG rfl rfl (g_makeFunc rfl (.cons (.mk (v := cellPtr _ _) rfl rfl) .nil)) ?_
  refine wG rfl rfl (g_assign rfl (.mk (v := .func _ _ _) rfl rfl)) ?_
  refine WL.nil ?_
  (refine hK _ _ ?_; clear hK)
  refine WC.ret ?_
  exact fun w' hw' => ⟨_, _, rfl, hw', b1, rfl, rfl⟩
theorem rd_of {C : World → Prop} {sz m m' c k : Nat} {A : Option Addr} {xs : List Value} {u : Value} (h : ∀ w, C w → Sl w sz (.slice A m c) m' xs) (hu : xs[k]? = some u) : RdC C A k u := fun w hw => rd_sl (L := []) (h w hw) hu w (H.refl w)
set_option maxHeartbeats 1000000 in
theorem backI_it {w0 w : World} {A : Option Addr} {c b r : Nat} {ds : List Int} {Ls : Nat → List Asrt} (hm : c ≤ maxLen) (hn : ds.length ≤ c) (hs : ∀ m w, H w0 (Ls m) w → Sl w 1 (.slice A ds.length c) ds.length (ivs ds)) (hp : ∀ i, pt b 32 [.slice A ds.length c] ∈ Ls i)
    (hy : ∀ m, m < ds.length → ∀ w, H w0 (Ls (m + 1)) w → YieldAt Fence.wide 0 Try.prog r #[iv m, iv (nth ds m)] w fun e w' => e = .returned (.bool true) ∧ H w0 (Ls m) w')
    (hw : H w0 (Ls ds.length) w) : Calls Try.prog 92 #[.func (.yield r) #[] #[], bpv b] w fun e w' => e = .returned (.tuple #[]) ∧ H w0 (Ls 0) w' := by
  unfold maxLen at hm
  refine calls_wc (args := [.func (.yield r) #[] #[], bpv b]) [] (Ls ds.length) Try.func92 rfl Try.ntmps92 rfl rfl rfl rfl hw ?_
  refine WC.seq fun K hK => ?_
  refine WC.region rfl ?_
  refine wG rfl rfl (g_load rfl (.mk rfl rfl) rfl (rd_pt (hp _) rfl)) ?_
  refine wG rfl rfl (g_len rfl (.mk rfl rfl) rfl) ?_
  refine wG rfl rfl (g_sub rfl (.mk rfl rfl) (.mk rfl rfl) (IntWalk.i64_in _ (by omega))) ?_
  refine wG rfl rfl (g_assign rfl (.mk (v := .int _ _) rfl rfl)) ?_
  refine WL.nil ?_
  (refine hK _ _ ?_; clear hK)
  refine WC.block ?_
  refine WC.loop2 (524168) (fun (m : Nat) (z : Int) => [(3, iv z)]) (fun m _ => Ls m) (fun m z => m ≤ ds.length ∧ z = (m : Int) - 1) (fun m _ => m) ds.length ((ds.length : Int) - 1) ⟨rfl, trivial⟩ (.refl _) ⟨by omega, rfl⟩ ?_
  rintro m z U ⟨hml, hz⟩
  cases m with
  | zero =>
    refine WC.seq fun K hK => ?_
    refine WC.seq fun K hK => ?_
    refine WC.region rfl ?_
    refine wG rfl rfl (g_move rfl (.mk (v := .int _ _) rfl rfl)) ?_
    refine wG rfl rfl (g_ge rfl (.mk rfl rfl) (.mk rfl rfl) (decide_eq_false (by omega))) ?_
    refine WL.nil ?_
    (refine hK _ _ ?_; clear hK)
    refine WC.cond_false (.mk rfl rfl) ?_
    refine WC.exit ?_
    exact fun w' hw' => ⟨rfl, hw'⟩
  | succ m =>
    obtain rfl : z = (m : Int) := by omega
    refine WC.seq fun K hK => ?_
    refine WC.seq fun K hK => ?_
    refine WC.region rfl ?_
    refine wG rfl rfl (g_move rfl (.mk (v := .int _ _) rfl rfl)) ?_
    refine wG rfl rfl (g_ge rfl (.mk rfl rfl) (.mk rfl rfl) (decide_eq_true (by omega))) ?_
    refine WL.nil ?_
    (refine hK _ _ ?_; clear hK)
    refine WC.cond_true (.mk rfl rfl) ?_
    refine WC.skip ?_
    (refine hK _ _ ?_; clear hK)
    refine WC.seq fun K hK => ?_
    refine WC.block ?_
    refine WC.seq fun K hK => ?_
    refine WC.regionY 6 (r := r) rfl rfl rfl rfl ?_
    refine wG rfl rfl (g_move rfl (.mk (v := .func _ _ _) rfl rfl)) ?_
    refine wG rfl rfl (g_move rfl (.mk (v := .int _ _) rfl rfl)) ?_
    refine wG rfl rfl (g_load rfl (.mk rfl rfl) rfl (rd_pt (hp _) rfl)) ?_
    refine wG rfl rfl (g_move rfl (.mk (v := .int _ _) rfl rfl)) ?_
    refine wG rfl rfl (g_indexAddr (sz := 1) (j := m) rfl (.mk rfl rfl) (.mk rfl rfl) rfl rfl rfl (by omega) (fun w hw => sl_some (hs _ w hw) (by omega))) ?_
    refine wG rfl rfl (g_load rfl (.mk rfl rfl) rfl (rd_of (hs _) (ivs_get (by omega)))) ?_
    refine WL.nil ?_
    refine ⟨[iv m, iv (nth ds m)], .mk rfl rfl, .cons (.mk rfl rfl) (.cons (.mk rfl rfl) .nil), fun w' hw' => YieldAt.mono (hy m (by omega) w' hw') ?_⟩
    rintro e w2 ⟨rfl, hH⟩
    refine ⟨_, _, rfl, hH, ?_⟩
    refine wG rfl rfl (g_notT rfl (.mk rfl rfl)) ?_
    refine WL.nil ?_
    (refine hK _ _ ?_; clear hK)
    refine WC.cond_false (.mk rfl rfl) ?_
    refine WC.skip ?_
    (refine hK _ _ ?_; clear hK)
    refine WC.region rfl ?_
    refine wG rfl rfl (g_move rfl (.mk (v := .int _ _) rfl rfl)) ?_
    refine wG rfl rfl (g_sub rfl (.mk rfl rfl) (.mk rfl rfl) (IntWalk.i64_in _ (by omega))) ?_
    refine wG rfl rfl (g_assign rfl (.mk (v := .int _ _) rfl rfl)) ?_
    refine WL.nil ?_
    exact ⟨m, (m : Int) - 1, (by repeat (first | with_reducible exact Out.refl _ _ | refine Out.set rfl ?_ | refine Out.put rfl ?_ | refine Out.sets rfl ?_ | refine Out.hav rfl ?_ | exact Out.refl _ _)), ⟨rfl, trivial⟩, .refl _, ⟨by omega, rfl⟩, by omega⟩
abbrev shV : List Value := [iv 3, iv 3, .slice none 0 0]
abbrev SHT : TypeId := 128
def elI0 (x : Int) : Nat → Int
  | 0 => x
  | _ + 1 => 0
set_option maxHeartbeats 1000000 in
theorem element_e (v : Value) (x : Int) (w : World) (hx : -1000 ≤ x ∧ x ≤ 1000) (hv : Sl w 1 v 1 [iv x]) : Calls Try.prog 90 #[.agg shV.toArray, v] w fun e w' => e = .returned (iv x) ∧ Below w.heap.size w w' := by
  obtain ⟨A, c, rfl, hc, hm, hs⟩ := hv.open_
  refine calls_wcM (args := [.agg shV.toArray, .slice A 1 c]) [4] [] Try.func90 rfl Try.ntmps90 rfl rfl rfl rfl (H.refl w) ?_
  refine (show WG _ _ w _ _ _ _ from ?_) w (H.refl w)
  (refine WG.seq ?_; intro K hK)
  refine WC.region rfl ?_
  refine WL.want rfl (WL1.box rfl rfl (.mk (v := .agg _) rfl rfl) rfl (fun b2 => ?_))
  refine wG rfl rfl (g_assign rfl (.mk (v := .int _ _) rfl rfl)) ?_
  refine WL.nil ?_
  (refine hK _ _ ?_; clear hK)
  (refine WG.seq ?_; intro K hK)
  refine WC.region rfl ?_
  refine WL.want rfl (WL1.alloc rfl rfl rfl rfl (fun b5 => ?_))
  refine WL.want rfl (WL1.store1 rfl rfl (.mk rfl rfl) (.mk (v := .int _ _) rfl rfl) rfl rfl (Nat.le_of_ble_eq_true rfl) (.head) ?_)
  refine WL.nil ?_
  (refine hK _ _ ?_; clear hK)
  refine WG.seqG ?_
  (refine WG.seq ?_; intro K hK)
  refine WC.region rfl ?_
  refine wG rfl rfl (g_move rfl (.mk (v := .slice _ _ _) rfl rfl)) ?_
  (refine WL.want rfl (WL1.callN rfl rfl rfl (.cons (.mk (v := .slice _ _ _) rfl rfl) .nil) (fun w hw => backI_n A 1 c w) ?_); rintro _ _ ⟨bs, rfl, rfl⟩)
  refine WL.nil ?_
  (refine hK _ _ ?_; clear hK)
  refine WG.block ?_
  intro w1 hw1
  refine wpF_range_it (ps := [10, 11]) 1 (fun m => [pt bs 32 [.slice A 1 c], pt b5 3 [iv (elI0 x m)], pt b2 SHT shV]) (fun m => [iv m, iv (nth [x] m)]) rfl ?_ rfl hw1 ?_ (fun _ => rfl)
    (fun r D X hy w' hw' => backI_it (ds := [x]) (Ls := fun m => X :: dfr D :: [pt bs 32 [.slice A 1 c], pt b5 3 [iv (elI0 x m)], pt b2 SHT shV]) hm hc (fun m w hw => hs.below hw.1) (fun i => .tail _ (.tail _ (.head _))) hy hw') ?_ ?_
  · exact .mk rfl rfl
  · exact .refl _
  · intro rec r D m hlm
    obtain rfl : m = 0 := by omega
    have e0 : elI0 x 0 = x := rfl
    have e1 : elI0 x 1 = 0 := rfl
    have e2 : nth [x] 0 = x := rfl
    rw [e0, e1, e2]
    refine WC.region rfl ?_
    refine wG rfl rfl (g_assign rfl (.mk (v := .int _ _) rfl rfl)) ?_
    refine WL.nil ?_
    refine ⟨_, .head, ?_⟩
    refine WC.block ?_
    refine WC.region rfl ?_
    refine wG rfl rfl (g_load rfl (.mk rfl rfl) rfl (rd_pt (.tail _ (.tail _ (.tail _ (.head _)))) rfl)) ?_
    refine wG rfl rfl (g_fieldAddr (off := 1) rfl (.mk rfl rfl) rfl (fun _ _ => rfl)) ?_
    refine wG rfl rfl (g_load rfl (.mk rfl rfl) rfl (rd_pt (.tail _ (.tail _ (.tail _ (.tail _ (.head _))))) rfl)) ?_
    refine wG rfl rfl (g_mul rfl (.mk rfl rfl) (.mk rfl rfl) (IntWalk.i64_in _ (by omega))) ?_
    refine wG rfl rfl (g_move rfl (.mk (v := .int _ _) rfl rfl)) ?_
    refine wG rfl rfl (g_add rfl (.mk rfl rfl) (.mk rfl rfl) (IntWalk.i64_in _ (by omega))) ?_
    refine WL.want rfl (WL1.store1 rfl rfl (.mk rfl rfl) (.mk (v := .int _ _) rfl rfl) rfl rfl (Nat.le_of_ble_eq_true rfl) (.tail (.tail (.tail (.head)))) ?_)
    refine WL.nil ?_
    rw [show (0 : Int) * 3 + x = x from by omega]
    exact ⟨_, .head, .refl _⟩
  · intro D w3 hw3
    refine (show WG _ ⟨19, none, marks [D]⟩ w _ _ _ _ from ?_) w3 hw3
    have e0 : elI0 x 0 = x := rfl
    rw [e0]
    (refine WG.seq ?_; intro K hK)
    refine WC.region rfl ?_
    refine wG rfl rfl (g_load rfl (.mk rfl rfl) rfl (rd_pt (.tail _ (.tail _ (.head _))) rfl)) ?_
    refine wG rfl rfl (g_assign rfl (.mk (v := .int _ _) rfl rfl)) ?_
    refine WL.nil ?_
    (refine hK _ _ ?_; clear hK)
    refine WG.of ?_
    refine WC.ret ?_
    exact fun w' hw' => ⟨_, [D], [], rfl, hw'.sub (.cons_cons _ (List.nil_sublist _)), fun w'' hw'' => ⟨rfl, hw''.1⟩⟩
set_option maxHeartbeats 1000000 in
theorem sdigits_n (a : Nat) (w : World) (ha : a ≤ 1000) : Calls Try.prog 89 #[.agg shV.toArray, iv a] w fun e w' => ∃ v M, e = .returned v ∧ H w M w' ∧ ∃ D c, v = .slice D 1 c ∧ M = [vec D 1 c 3 1 [iv (a % 3 : Nat)]] := by
  have hrem : (a : Int).tmod 3 = ((a % 3 : Nat) : Int) := by rw [Int.tmod_eq_emod_of_nonneg (by omega)]; omega
  refine calls_wc (args := [.agg shV.toArray, iv a]) [4] [] Try.func89 rfl Try.ntmps89 rfl rfl rfl rfl (H.refl _) ?_
  refine WC.seq fun K hK => ?_
  refine WC.region rfl ?_
  refine WL.want rfl (WL1.box rfl rfl (.mk (v := .agg _) rfl rfl) rfl (fun b2 => ?_))
  refine wG rfl rfl (g_assign rfl (.mk (v := .slice _ _ _) rfl rfl)) ?_
  refine WL.nil ?_
  (refine hK _ _ ?_; clear hK)
  refine WC.seq fun K hK => ?_
  refine WC.region rfl ?_
  refine wG rfl rfl (g_fieldAddr (off := 2) rfl (.mk rfl rfl) rfl (fun _ _ => rfl)) ?_
  refine wG rfl rfl (g_load rfl (.mk rfl rfl) rfl (rd_pt (.head _) rfl)) ?_
  refine wG rfl rfl (g_len rfl (.mk rfl rfl) rfl) ?_
  refine wG rfl rfl (g_max rfl (.mk rfl rfl) (.mk rfl rfl) (if_neg (by omega))) ?_
  refine WL.want rfl (WL1.make elI rfl rfl (.mk rfl rfl) (.mk rfl rfl) (Int.toNat_of_nonneg (by omega)).symm (Int.toNat_of_nonneg (by omega)).symm (by omega) (by unfold maxLen; omega) (fun b11 => ?_))
  refine wG rfl rfl (g_assign rfl (.mk (v := .slice _ _ _) rfl rfl)) ?_
  refine WL.nil ?_
  (refine hK _ _ ?_; clear hK)
  refine WC.seq fun K hK => ?_
  refine WC.seq fun K hK => ?_
  refine WC.region rfl ?_
  refine wG rfl rfl (g_move rfl (.mk (v := .slice _ _ _) rfl rfl)) ?_
  refine wG rfl rfl (g_len rfl (.mk rfl rfl) rfl) ?_
  refine wG rfl rfl (g_move rfl (.mk (v := .int _ _) rfl rfl)) ?_
  refine WL.nil ?_
  (refine hK _ _ ?_; clear hK)
  refine WC.block ?_
  refine WC.loop (536854594) (fun i : Nat => [(14, iv i), (1, iv (dr a i))]) (fun i => [vec (some ⟨b11, 0, none⟩) 1 1 3 1 [iv (ad 0 (a % 3) i)], pt b2 SHT shV]) (fun i => i ≤ 1) (fun i => 1 - i) 0 ⟨rfl, rfl, trivial⟩ (by rw [show (madeCells (Value.int .i64 0).cells (Int.toNat 1 * 1)).toList = [iv 0] from made_iv 1]; exact .refl _) (by omega) ?_
  intro i U hi
  obtain rfl | rfl : i = 0 ∨ i = 1 := by omega
  · have hdr : dr a 0 = (a : Int) := rfl
    have had : ad 0 (a % 3) 0 = 0 := rfl
    rw [hdr, had]
    refine WC.seq fun K hK => ?_
    refine WC.region rfl ?_
    refine wG rfl rfl (g_lt rfl (.mk rfl rfl) (.mk rfl rfl) (decide_eq_true (by omega))) ?_
    refine WL.nil ?_
    (refine hK _ _ ?_; clear hK)
    refine WC.seq fun K hK => ?_
    refine WC.cond_true (.mk rfl rfl) ?_
    refine WC.skip ?_
    (refine hK _ _ ?_; clear hK)
    refine WC.seq fun K hK => ?_
    refine WC.block ?_
    refine WC.seq fun K hK => ?_
    refine WC.region rfl ?_
    refine wG rfl rfl (g_move rfl (.mk (v := .int _ _) rfl rfl)) ?_
    refine wG rfl rfl (g_assign rfl (.mk (v := .int _ _) rfl rfl)) ?_
    refine WL.nil ?_
    (refine hK _ _ ?_; clear hK)
    refine WC.seq fun K hK => ?_
    refine WC.region rfl ?_
    refine wG rfl rfl (g_move rfl (.mk (v := .slice _ _ _) rfl rfl)) ?_
    refine wG rfl rfl (g_move rfl (.mk (v := .int _ _) rfl rfl)) ?_
    refine wG rfl rfl (g_move rfl (.mk (v := .int _ _) rfl rfl)) ?_
    refine wG rfl rfl (g_fieldAddr (off := 1) rfl (.mk rfl rfl) rfl (fun _ _ => rfl)) ?_
    refine wG rfl rfl (g_load rfl (.mk rfl rfl) rfl (rd_pt (.tail _ (.head _)) rfl)) ?_
    refine wG rfl rfl (g_rem rfl (.mk rfl rfl) (.mk rfl rfl) (by omega) hrem) ?_
    refine wG rfl rfl (g_indexAddr (sz := 1) rfl (.mk rfl rfl) (.mk rfl rfl) rfl rfl (show _ = ((0 : Nat) : Int) from rfl) (by omega) (fun _ _ => rfl)) ?_
    refine WL.want rfl (WL1.storeV1 rfl rfl (.mk rfl rfl) (.mk (v := .int _ _) rfl rfl) rfl rfl (by first | omega | (simp; done) | (simp; omega)) (.head) ?_)
    refine WL.nil ?_
    (refine hK _ _ ?_; clear hK)
    refine WC.region rfl ?_
    refine wG rfl rfl (g_move rfl (.mk (v := .int _ _) rfl rfl)) ?_
    refine wG rfl rfl (g_fieldAddr (off := 1) rfl (.mk rfl rfl) rfl (fun _ _ => rfl)) ?_
    refine wG rfl rfl (g_load rfl (.mk rfl rfl) rfl (rd_pt (.tail _ (.head _)) rfl)) ?_
    refine wG rfl rfl (g_quo rfl (.mk rfl rfl) (.mk rfl rfl) (by omega) (IntWalk.i64_quo _ _ (by omega))) ?_
    refine wG rfl rfl (g_assign rfl (.mk (v := .int _ _) rfl rfl)) ?_
    refine WL.nil ?_
    (refine hK _ _ ?_; clear hK)
    refine WC.region rfl ?_
    refine wG rfl rfl (g_add rfl (.mk rfl rfl) (.mk rfl rfl) (IntWalk.i64_in _ (by omega))) ?_
    refine wG rfl rfl (g_move rfl (.mk (v := .int _ _) rfl rfl)) ?_
    refine WL.nil ?_
    exact ⟨1, (by repeat (first | with_reducible exact Out.refl _ _ | refine Out.set rfl ?_ | refine Out.put rfl ?_ | refine Out.sets rfl ?_ | refine Out.hav rfl ?_ | exact Out.refl _ _)), ⟨rfl, rfl, trivial⟩, .refl _, by omega, by omega⟩
  · have had : ad 0 (a % 3) 1 = (a % 3 : Nat) := rfl
    rw [had]
    refine WC.seq fun K hK => ?_
    refine WC.region rfl ?_
    refine wG rfl rfl (g_lt rfl (.mk rfl rfl) (.mk rfl rfl) (decide_eq_false (by omega))) ?_
    refine WL.nil ?_
    (refine hK _ _ ?_; clear hK)
    refine WC.seq fun K hK => ?_
    refine WC.cond_false (.mk rfl rfl) ?_
    refine WC.exit ?_
    (clear hK; refine hK _ _ ?_; clear hK)
    refine WC.seq fun K hK => ?_
    refine WC.region rfl ?_
    refine wG rfl rfl (g_move rfl (.mk (v := .slice _ _ _) rfl rfl)) ?_
    refine wG rfl rfl (g_assign rfl (.mk (v := .slice _ _ _) rfl rfl)) ?_
    refine WL.nil ?_
    (refine hK _ _ ?_; clear hK)
    refine WC.ret ?_
    exact fun w' hw' => ⟨_, _, rfl, hw'.sub (.cons_cons _ (List.nil_sublist _)), some ⟨b11, 0, none⟩, 1, rfl, rfl⟩
set_option maxHeartbeats 1000000 in
theorem sadd_e (a b : Nat) (w : World) (ha : a ≤ 1000) (hb : b ≤ 1000) : Calls Try.prog 79 #[.agg shV.toArray, iv a, iv b] w fun e w' => e = .returned (iv ((a % 3 + b % 3) % 3 : Nat)) ∧ Below w.heap.size w w' := by
  have hrem : ((a % 3 : Nat) + (b % 3 : Nat) : Int).tmod 3 = (((a % 3 + b % 3) % 3 : Nat) : Int) := by rw [Int.tmod_eq_emod_of_nonneg (by omega)]; omega
  have h1 := fun w => sdigits_n a w ha
  have h2 := fun w => sdigits_n b w hb
  generalize ha3 : a % 3 = x at *
  generalize hb3 : b % 3 = y at *
  have hx : x ≤ 2 := by omega
  have hy : y ≤ 2 := by omega
  obtain ⟨z, hz⟩ : ∃ z, z = (x + y) % 3 := ⟨_, rfl⟩
  rw [← hz] at hrem
  have hz2 : z ≤ 2 := by omega
  refine calls_wc (args := [.agg shV.toArray, iv a, iv b]) [6] [] Try.func79 rfl Try.ntmps79 rfl rfl rfl rfl (H.refl _) ?_
  refine WC.seq fun K hK => ?_
  refine WC.region rfl ?_
  refine WL.want rfl (WL1.box rfl rfl (.mk (v := .agg _) rfl rfl) rfl (fun b3 => ?_))
  refine wG rfl rfl (g_assign rfl (.mk (v := .int _ _) rfl rfl)) ?_
  refine WL.nil ?_
  (refine hK _ _ ?_; clear hK)
  refine WC.seq fun K hK => ?_
  refine WC.held [pt b3 SHT shV] rfl (by kernel_rfl) ?_
  refine WH.take 0 rfl (by decide +kernel) (by decide +kernel) (by decide +kernel) rfl rfl (Imp.sub (by first | ((repeat (first | exact List.nil_sublist _ | exact List.Sublist.refl _ | apply List.Sublist.cons_cons | apply List.Sublist.cons)); done) | fail)) (g_loadA rfl (.mk rfl rfl) rfl rfl (rdr_pt (.head _) (fun j u h => by simpa using h))) ?_
  refine WH.take 1 rfl (by decide +kernel) (by decide +kernel) (by decide +kernel) rfl rfl (Imp.sub (by first | ((repeat (first | exact List.nil_sublist _ | exact List.Sublist.refl _ | apply List.Sublist.cons_cons | apply List.Sublist.cons)); done) | fail)) (g_move rfl (.mk (v := .int _ _) rfl rfl)) ?_
  refine WH.take 3 rfl (by decide +kernel) (by decide +kernel) (by decide +kernel) rfl rfl (Imp.sub (by first | ((repeat (first | exact List.nil_sublist _ | exact List.Sublist.refl _ | apply List.Sublist.cons_cons | apply List.Sublist.cons)); done) | fail)) (g_loadA rfl (.mk rfl rfl) rfl rfl (rdr_pt (.head _) (fun j u h => by simpa using h))) ?_
  refine WH.take 4 rfl (by decide +kernel) (by decide +kernel) (by decide +kernel) rfl rfl (Imp.sub (by first | ((repeat (first | exact List.nil_sublist _ | exact List.Sublist.refl _ | apply List.Sublist.cons_cons | apply List.Sublist.cons)); done) | fail)) (g_move rfl (.mk (v := .int _ _) rfl rfl)) ?_
  refine WH.one 2 (by decide +kernel) rfl rfl ?_
  (refine WL1.callN rfl rfl rfl (.cons (.mk (v := .agg _) rfl rfl) (.cons (.mk (v := .int _ _) rfl rfl) .nil)) (fun w hw => h1 w) ?_; rintro _ _ ⟨D, c, rfl, rfl⟩)
  refine WL.nil ?_
  refine ⟨(Imp.sub (by first | ((repeat (first | exact List.nil_sublist _ | exact List.Sublist.refl _ | apply List.Sublist.cons_cons | apply List.Sublist.cons)); done) | fail)), ?_⟩
  refine WH.one 5 (by decide +kernel) rfl rfl ?_
  (refine WL1.callN rfl rfl rfl (.cons (.mk (v := .agg _) rfl rfl) (.cons (.mk (v := .int _ _) rfl rfl) .nil)) (fun w hw => h2 w) ?_; rintro _ _ ⟨D2, c2, rfl, rfl⟩)
  refine WL.nil ?_
  refine ⟨(Imp.sub (by first | ((repeat (first | exact List.nil_sublist _ | exact List.Sublist.refl _ | apply List.Sublist.cons_cons | apply List.Sublist.cons)); done) | fail)), ?_⟩
  refine WH.take 6 rfl (by decide +kernel) (by decide +kernel) (by decide +kernel) rfl rfl (Imp.sub (by first | ((repeat (first | exact List.nil_sublist _ | exact List.Sublist.refl _ | apply List.Sublist.cons_cons | apply List.Sublist.cons)); done) | fail)) (g_assign rfl (.mk (v := .slice _ _ _) rfl rfl)) ?_
  refine WH.take 7 rfl (by decide +kernel) (by decide +kernel) (by decide +kernel) rfl rfl (Imp.sub (by first | ((repeat (first | exact List.nil_sublist _ | exact List.Sublist.refl _ | apply List.Sublist.cons_cons | apply List.Sublist.cons)); done) | fail)) (g_assign rfl (.mk (v := .slice _ _ _) rfl rfl)) ?_
  refine WH.done (by decide +kernel) ?_
  (refine hK _ _ ?_; clear hK)
  refine WC.seq fun K hK => ?_
  refine WC.seq fun K hK => ?_
  refine WC.region rfl ?_
  refine wG rfl rfl (g_move rfl (.mk (v := .slice _ _ _) rfl rfl)) ?_
  refine wG rfl rfl (g_len rfl (.mk rfl rfl) rfl) ?_
  refine wG rfl rfl (g_move rfl (.mk (v := .int _ _) rfl rfl)) ?_
  refine WL.nil ?_
  (refine hK _ _ ?_; clear hK)
  refine WC.block ?_
  all_goals
    refine WC.loop (137438691840) (fun i : Nat => [(18, iv i)]) (fun i => [vec D2 1 c2 3 1 [iv y], vec D 1 c 3 1 [iv (ad x z i)], pt b3 SHT shV]) (fun i => i ≤ 1) (fun i => 1 - i) 0 ⟨rfl, trivial⟩ (.refl _) (by omega) ?_
    intro i U hi
    obtain rfl | rfl : i = 0 ∨ i = 1 := by omega
    · have had : ad x z 0 = (x : Int) := rfl
      rw [had]
      refine WC.seq fun K hK => ?_
      refine WC.region rfl ?_
      refine wG rfl rfl (g_lt rfl (.mk rfl rfl) (.mk rfl rfl) (decide_eq_true (by omega))) ?_
      refine WL.nil ?_
      (refine hK _ _ ?_; clear hK)
      refine WC.seq fun K hK => ?_
      refine WC.cond_true (.mk rfl rfl) ?_
      refine WC.skip ?_
      (refine hK _ _ ?_; clear hK)
      refine WC.seq fun K hK => ?_
      refine WC.block ?_
      refine WC.seq fun K hK => ?_
      refine WC.region rfl ?_
      refine wG rfl rfl (g_move rfl (.mk (v := .int _ _) rfl rfl)) ?_
      refine wG rfl rfl (g_assign rfl (.mk (v := .int _ _) rfl rfl)) ?_
      refine WL.nil ?_
      (refine hK _ _ ?_; clear hK)
      refine WC.untilL [15] rfl (by kernel_rfl) ?_
      refine WB.takeP 0 rfl (by decide +kernel) (by decide +kernel) (by decide +kernel) (by decide +kernel) rfl rfl (.inr (Imp.sub (by first | ((repeat (first | exact List.nil_sublist _ | exact List.Sublist.refl _ | apply List.Sublist.cons_cons | apply List.Sublist.cons)); done) | fail))) (g_move rfl (.mk (v := .slice _ _ _) rfl rfl)) ?_
      refine WB.takeP 1 rfl (by decide +kernel) (by decide +kernel) (by decide +kernel) (by decide +kernel) rfl rfl (.inr (Imp.sub (by first | ((repeat (first | exact List.nil_sublist _ | exact List.Sublist.refl _ | apply List.Sublist.cons_cons | apply List.Sublist.cons)); done) | fail))) (g_move rfl (.mk (v := .int _ _) rfl rfl)) ?_
      refine WB.takeP 2 rfl (by decide +kernel) (by decide +kernel) (by decide +kernel) (by decide +kernel) rfl rfl (.inr (Imp.sub (by first | ((repeat (first | exact List.nil_sublist _ | exact List.Sublist.refl _ | apply List.Sublist.cons_cons | apply List.Sublist.cons)); done) | fail))) (g_move rfl (.mk (v := .slice _ _ _) rfl rfl)) ?_
      refine WB.takeP 3 rfl (by decide +kernel) (by decide +kernel) (by decide +kernel) (by decide +kernel) rfl rfl (.inr (Imp.sub (by first | ((repeat (first | exact List.nil_sublist _ | exact List.Sublist.refl _ | apply List.Sublist.cons_cons | apply List.Sublist.cons)); done) | fail))) (g_move rfl (.mk (v := .int _ _) rfl rfl)) ?_
      refine WB.take 4 rfl (by decide +kernel) (by decide +kernel) (by decide +kernel) (by decide +kernel) rfl rfl (Imp.sub (by first | ((repeat (first | exact List.nil_sublist _ | exact List.Sublist.refl _ | apply List.Sublist.cons_cons | apply List.Sublist.cons)); done) | fail)) (g_indexAddr (sz := 1) rfl (.mk rfl rfl) (.mk rfl rfl) rfl rfl (show _ = ((0 : Nat) : Int) from rfl) (by omega) (fun w hw => vec_some hw (.tail _ (.head _)) (by omega))) ?_
      refine WB.take 5 rfl (by decide +kernel) (by decide +kernel) (by decide +kernel) (by decide +kernel) rfl rfl (Imp.sub (by first | ((repeat (first | exact List.nil_sublist _ | exact List.Sublist.refl _ | apply List.Sublist.cons_cons | apply List.Sublist.cons)); done) | fail)) (g_load rfl (.mk rfl rfl) rfl (rd_vec (.tail _ (.head _)) (rfl : ([iv x] : List Value)[_]? = some (iv x)))) ?_
      refine WB.takeP 6 rfl (by decide +kernel) (by decide +kernel) (by decide +kernel) (by decide +kernel) rfl rfl (.inr (Imp.sub (by first | ((repeat (first | exact List.nil_sublist _ | exact List.Sublist.refl _ | apply List.Sublist.cons_cons | apply List.Sublist.cons)); done) | fail))) (g_move rfl (.mk (v := .slice _ _ _) rfl rfl)) ?_
      refine WB.takeP 7 rfl (by decide +kernel) (by decide +kernel) (by decide +kernel) (by decide +kernel) rfl rfl (.inr (Imp.sub (by first | ((repeat (first | exact List.nil_sublist _ | exact List.Sublist.refl _ | apply List.Sublist.cons_cons | apply List.Sublist.cons)); done) | fail))) (g_move rfl (.mk (v := .int _ _) rfl rfl)) ?_
      refine WB.take 8 rfl (by decide +kernel) (by decide +kernel) (by decide +kernel) (by decide +kernel) rfl rfl (Imp.sub (by first | ((repeat (first | exact List.nil_sublist _ | exact List.Sublist.refl _ | apply List.Sublist.cons_cons | apply List.Sublist.cons)); done) | fail)) (g_indexAddr (sz := 1) rfl (.mk rfl rfl) (.mk rfl rfl) rfl rfl (show _ = ((0 : Nat) : Int) from rfl) (by omega) (fun w hw => vec_some hw (.head _) (by omega))) ?_
      refine WB.take 9 rfl (by decide +kernel) (by decide +kernel) (by decide +kernel) (by decide +kernel) rfl rfl (Imp.sub (by first | ((repeat (first | exact List.nil_sublist _ | exact List.Sublist.refl _ | apply List.Sublist.cons_cons | apply List.Sublist.cons)); done) | fail)) (g_load rfl (.mk rfl rfl) rfl (rd_vec (.head _) (rfl : ([iv y] : List Value)[_]? = some (iv y)))) ?_
      refine WB.takeP 10 rfl (by decide +kernel) (by decide +kernel) (by decide +kernel) (by decide +kernel) rfl rfl (.inr (Imp.sub (by first | ((repeat (first | exact List.nil_sublist _ | exact List.Sublist.refl _ | apply List.Sublist.cons_cons | apply List.Sublist.cons)); done) | fail))) (g_add rfl (.mk rfl rfl) (.mk rfl rfl) (IntWalk.i64_in _ (by omega))) ?_
      refine WB.takeP 11 rfl (by decide +kernel) (by decide +kernel) (by decide +kernel) (by decide +kernel) rfl rfl (.inr (Imp.sub (by first | ((repeat (first | exact List.nil_sublist _ | exact List.Sublist.refl _ | apply List.Sublist.cons_cons | apply List.Sublist.cons)); done) | fail))) (g_fieldAddr (off := 1) rfl (.mk rfl rfl) rfl (fun _ _ => rfl)) ?_
      refine WB.take 12 rfl (by decide +kernel) (by decide +kernel) (by decide +kernel) (by decide +kernel) rfl rfl (Imp.sub (by first | ((repeat (first | exact List.nil_sublist _ | exact List.Sublist.refl _ | apply List.Sublist.cons_cons | apply List.Sublist.cons)); done) | fail)) (g_load rfl (.mk rfl rfl) rfl (rd_pt (.tail _ (.tail _ (.head _))) rfl)) ?_
      refine WB.takeP 13 rfl (by decide +kernel) (by decide +kernel) (by decide +kernel) (by decide +kernel) rfl rfl (.inr (Imp.sub (by first | ((repeat (first | exact List.nil_sublist _ | exact List.Sublist.refl _ | apply List.Sublist.cons_cons | apply List.Sublist.cons)); done) | fail))) (g_rem rfl (.mk rfl rfl) (.mk rfl rfl) (by omega) hrem) ?_
      refine WB.take 14 rfl (by decide +kernel) (by decide +kernel) (by decide +kernel) (by decide +kernel) rfl rfl (Imp.sub (by first | ((repeat (first | exact List.nil_sublist _ | exact List.Sublist.refl _ | apply List.Sublist.cons_cons | apply List.Sublist.cons)); done) | fail)) (g_indexAddr (sz := 1) rfl (.mk rfl rfl) (.mk rfl rfl) rfl rfl (show _ = ((0 : Nat) : Int) from rfl) (by omega) (fun w hw => vec_some hw (.tail _ (.head _)) (by omega))) ?_
      refine WB.one 15 (by decide +kernel) rfl rfl ?_
      refine WL1.storeV1 rfl rfl (.mk rfl rfl) (.mk (v := .int _ _) rfl rfl) rfl rfl (by first | omega | (simp; done) | (simp; omega)) (.tail (.head)) ?_
      refine WL.nil ?_
      refine ⟨.inl (by decide +kernel), ?_⟩
      refine WB.done (by decide +kernel) ?_
      (refine hK _ _ ?_; clear hK)
      refine WC.region rfl ?_
      refine wG rfl rfl (g_add rfl (.mk rfl rfl) (.mk rfl rfl) (IntWalk.i64_in _ (by omega))) ?_
      refine wG rfl rfl (g_move rfl (.mk (v := .int _ _) rfl rfl)) ?_
      refine WL.nil ?_
      exact ⟨1, (by repeat (first | with_reducible exact Out.refl _ _ | refine Out.set rfl ?_ | refine Out.put rfl ?_ | refine Out.sets rfl ?_ | refine Out.hav rfl ?_ | exact Out.refl _ _)), ⟨rfl, trivial⟩, .refl _, by omega, by omega⟩
    · have had : ad x z 1 = (z : Int) := rfl
      rw [had]
      refine WC.seq fun K hK => ?_
      refine WC.region rfl ?_
      refine wG rfl rfl (g_lt rfl (.mk rfl rfl) (.mk rfl rfl) (decide_eq_false (by omega))) ?_
      refine WL.nil ?_
      (refine hK _ _ ?_; clear hK)
      refine WC.seq fun K hK => ?_
      refine WC.cond_false (.mk rfl rfl) ?_
      refine WC.exit ?_
      (clear hK; refine hK _ _ ?_; clear hK)
      refine WC.seq fun K hK => ?_
      refine WC.region rfl ?_
      refine wG rfl rfl (g_loadA rfl (.mk rfl rfl) rfl rfl (rdr_pt (.tail _ (.tail _ (.head _))) (fun j u h => by simpa using h))) ?_
      refine wG rfl rfl (g_move rfl (.mk (v := .slice _ _ _) rfl rfl)) ?_
      refine WL.want rfl (WL1.callP rfl rfl rfl (.cons (.mk (v := .agg _) rfl rfl) (.cons (.mk (v := .slice _ _ _) rfl rfl) .nil)) (fun w hw => element_e _ z w (by omega) (Sl.of_vec hw (.tail _ (.head _)))) ?_)
      refine wG rfl rfl (g_assign rfl (.mk (v := .int _ _) rfl rfl)) ?_
      refine WL.nil ?_
      (refine hK _ _ ?_; clear hK)
      refine WC.ret ?_
      exact fun w' hw' => ⟨by rw [← hz]; rfl, hw'.1⟩
theorem smul_e {w0 w : World} {L : List Asrt} {b : Nat} (x y : Nat) (hx : x ≤ 1000) (hy : y ≤ 1000) (hL : pt b SHT shV ∈ L) (hw : H w0 L w) : Calls Try.prog 78 #[iv x, iv y, bpv b] w fun e w' => e = .returned (iv (x * y % 3 : Nat)) ∧ Below w.heap.size w w' := by
  have hp : x * y ≤ 1000 * 1000 := Nat.mul_le_mul hx hy
  have hmul : IntKind.i64.wrap ((x : Int) * y) = ((x * y : Nat) : Int) := by rw [← Int.natCast_mul]; exact IntWalk.i64_in _ (by omega)
  generalize x * y = z at *
  have hrem : (z : Int).tmod 3 = ((z % 3 : Nat) : Int) := by rw [Int.tmod_eq_emod_of_nonneg (by omega)]; omega
  have hc : w.cell? ⟨b, 1, none⟩ = some (iv 3) := cell_pt hw hL rfl
  refine calls_wc (args := [iv x, iv y, bpv b]) [5] [] Try.func78 rfl Try.ntmps78 rfl rfl rfl rfl (H.refl _) ?_
  refine WC.seq fun K hK => ?_
  refine WC.region rfl ?_
  refine wG rfl rfl (g_assign rfl (.mk (v := .int _ _) rfl rfl)) ?_
  refine WL.nil ?_
  (refine hK _ _ ?_; clear hK)
  refine WC.seq fun K hK => ?_
  refine WC.region rfl ?_
  refine wG rfl rfl (g_move rfl (.mk (v := .int _ _) rfl rfl)) ?_
  refine wG rfl rfl (g_move rfl (.mk (v := .int _ _) rfl rfl)) ?_
  refine wG rfl rfl (g_mul rfl (.mk rfl rfl) (.mk rfl rfl) hmul) ?_
  refine wG rfl rfl (g_fieldAddr (off := 1) rfl (.mk rfl rfl) rfl (fun _ _ => rfl)) ?_
  refine wG rfl rfl (g_load rfl (.mk rfl rfl) rfl (rd_wb hc)) ?_
  refine wG rfl rfl (g_rem rfl (.mk rfl rfl) (.mk rfl rfl) (by omega) hrem) ?_
  refine wG rfl rfl (g_assign rfl (.mk (v := .int _ _) rfl rfl)) ?_
  refine WL.nil ?_
  (refine hK _ _ ?_; clear hK)
  refine WC.ret ?_
  exact fun w' hw' => ⟨rfl, hw'.1⟩
end Go.Proofs.Ytdcijljfgcjelaa
namespace Go.Proofs.Ytdcijljfgcjelaa
set_option maxRecDepth 20000
open Go.RowKit
attribute [local irreducible] Calls
theorem elSh : Elem Try.prog 126 SHT (.agg #[iv 0, iv 0, .slice none 0 0]) 3 40 := ⟨by kernel_rfl, by kernel_rfl, rfl, by decide⟩
theorem shapes_n (w : World) : Calls Try.prog 75 #[] w fun e w' => ∃ v M, e = .returned v ∧ H w M w' ∧ ∃ A c ds, v = .slice A 7 c ∧ M = [vec A 7 c SHT 3 ([iv 2, iv 2, .slice none 0 0, iv 3, iv 3, .slice none 0 0] ++ ds)] := by
  refine calls_wc (args := []) [0] [] Try.func75 rfl Try.ntmps75 rfl rfl rfl rfl (H.refl _) ?_
  refine WC.seq fun K hK => ?_
  refine WC.region rfl ?_
  refine wG rfl rfl (g_assign rfl (.mk (v := .slice _ _ _) rfl rfl)) ?_
  refine WL.nil ?_
  (refine hK _ _ ?_; clear hK)
  refine WC.seq fun K hK => ?_
  refine WC.region rfl ?_
  refine wG rfl rfl (g_build (cs := [_, _, _]) rfl rfl rfl rfl (.cons (.mk (v := .int _ _) rfl rfl) (.cons (.mk (v := .int _ _) rfl rfl) (.cons (.mk (v := .slice _ _ _) rfl rfl) .nil))) rfl rfl rfl) ?_
  refine wG rfl rfl (g_build (cs := [_, _, _]) rfl rfl rfl rfl (.cons (.mk (v := .int _ _) rfl rfl) (.cons (.mk (v := .int _ _) rfl rfl) (.cons (.mk (v := .slice _ _ _) rfl rfl) .nil))) rfl rfl rfl) ?_
  refine WL.want rfl (WL1.lit (cs := [_, _]) elI rfl rfl rfl (.cons (.mk (v := .int _ _) rfl rfl) (.cons (.mk (v := .int _ _) rfl rfl) .nil)) rfl (by first | (simp [Value.cells]; done) | fail) rfl rfl (fun b3 => ?_))
  refine wG rfl rfl (g_build (cs := [_, _, _]) rfl rfl rfl rfl (.cons (.mk (v := .int _ _) rfl rfl) (.cons (.mk (v := .int _ _) rfl rfl) (.cons (.mk (v := .slice _ _ _) rfl rfl) .nil))) rfl rfl rfl) ?_
  refine wG rfl rfl (g_build (cs := [_, _, _]) rfl rfl rfl rfl (.cons (.mk (v := .int _ _) rfl rfl) (.cons (.mk (v := .int _ _) rfl rfl) (.cons (.mk (v := .slice _ _ _) rfl rfl) .nil))) rfl rfl rfl) ?_
  refine wG rfl rfl (g_build (cs := [_, _, _]) rfl rfl rfl rfl (.cons (.mk (v := .int _ _) rfl rfl) (.cons (.mk (v := .int _ _) rfl rfl) (.cons (.mk (v := .slice _ _ _) rfl rfl) .nil))) rfl rfl rfl) ?_
  refine WL.want rfl (WL1.lit (cs := [_, _, _]) elI rfl rfl rfl (.cons (.mk (v := .int _ _) rfl rfl) (.cons (.mk (v := .int _ _) rfl rfl) (.cons (.mk (v := .int _ _) rfl rfl) .nil))) rfl (by first | (simp [Value.cells]; done) | fail) rfl rfl (fun b7 => ?_))
  refine wG rfl rfl (g_build (cs := [_, _, _]) rfl rfl rfl rfl (.cons (.mk (v := .int _ _) rfl rfl) (.cons (.mk (v := .int _ _) rfl rfl) (.cons (.mk (v := .slice _ _ _) rfl rfl) .nil))) rfl rfl rfl) ?_
  refine WL.want rfl (WL1.lit (cs := [_, _]) elI rfl rfl rfl (.cons (.mk (v := .int _ _) rfl rfl) (.cons (.mk (v := .int _ _) rfl rfl) .nil)) rfl (by first | (simp [Value.cells]; done) | fail) rfl rfl (fun b9 => ?_))
  refine wG rfl rfl (g_build (cs := [_, _, _]) rfl rfl rfl rfl (.cons (.mk (v := .int _ _) rfl rfl) (.cons (.mk (v := .int _ _) rfl rfl) (.cons (.mk (v := .slice _ _ _) rfl rfl) .nil))) rfl rfl rfl) ?_
  refine WL.want rfl (WL1.lit elSh rfl rfl rfl (.cons (.mk (v := .agg _) rfl rfl) (.cons (.mk (v := .agg _) rfl rfl) (.cons (.mk (v := .agg _) rfl rfl) (.cons (.mk (v := .agg _) rfl rfl) (.cons (.mk (v := .agg _) rfl rfl) (.cons (.mk (v := .agg _) rfl rfl) (.cons (.mk (v := .agg _) rfl rfl) .nil))))))) rfl (by intro v hv; simp only [List.mem_cons, List.not_mem_nil, or_false] at hv; rcases hv with rfl | rfl | rfl | rfl | rfl | rfl | rfl <;> rfl) rfl rfl (fun b11 => ?_))
  refine wG rfl rfl (g_assign rfl (.mk (v := .slice _ _ _) rfl rfl)) ?_
  refine WL.nil ?_
  (refine hK _ _ ?_; clear hK)
  refine WC.ret ?_
  exact fun w' hw' => ⟨_, _, rfl, hw'.sub (.cons_cons _ (List.nil_sublist _)), some ⟨b11, 0, none⟩, 7, _, rfl, rfl⟩
theorem shclo_e {w : World} {b : Nat} {x y : Int} {z : Value} (hc : w.cell? ⟨b, 0, none⟩ = some (iv 3)) : Calls Try.prog 76 #[.agg #[iv x, iv y, z], bpv b] w fun e w' => e = .returned (.bool (decide (x = 3))) ∧ Below w.heap.size w w' := by
  by_cases h : x = 3
  · refine calls_wc (args := [.agg #[iv x, iv y, z], bpv b]) [3] [] Try.func76 rfl Try.ntmps76 rfl rfl rfl rfl (H.refl _) ?_
    refine WC.seq fun K hK => ?_
    refine WC.region rfl ?_
    refine WL.want rfl (WL1.box rfl rfl (.mk (v := .agg _) rfl rfl) rfl (fun b2 => ?_))
    refine wG rfl rfl (g_assign rfl (.mk (v := .bool _) rfl rfl)) ?_
    refine WL.nil ?_
    (refine hK _ _ ?_; clear hK)
    refine WC.seq fun K hK => ?_
    refine WC.region rfl ?_
    refine wG rfl rfl (g_fieldAddr (off := 0) rfl (.mk rfl rfl) rfl (fun _ _ => rfl)) ?_
    refine wG rfl rfl (g_load rfl (.mk rfl rfl) rfl (rd_pt (.head _) rfl)) ?_
    refine wG rfl rfl (g_load rfl (.mk rfl rfl) rfl (rd_wb hc)) ?_
    refine wG rfl rfl (g_eq rfl (.mk rfl rfl) (.mk rfl rfl) (decide_eq_true (by omega))) ?_
    refine wG rfl rfl (g_assign rfl (.mk (v := .bool _) rfl rfl)) ?_
    refine WL.nil ?_
    (refine hK _ _ ?_; clear hK)
    refine WC.ret ?_
    exact fun w' hw' => ⟨by rw [decide_eq_true h]; rfl, hw'.1⟩
  · refine calls_wc (args := [.agg #[iv x, iv y, z], bpv b]) [3] [] Try.func76 rfl Try.ntmps76 rfl rfl rfl rfl (H.refl _) ?_
    refine WC.seq fun K hK => ?_
    refine WC.region rfl ?_
    refine WL.want rfl (WL1.box rfl rfl (.mk (v := .agg _) rfl rfl) rfl (fun b2 => ?_))
    refine wG rfl rfl (g_assign rfl (.mk (v := .bool _) rfl rfl)) ?_
    refine WL.nil ?_
    (refine hK _ _ ?_; clear hK)
    refine WC.seq fun K hK => ?_
    refine WC.region rfl ?_
    refine wG rfl rfl (g_fieldAddr (off := 0) rfl (.mk rfl rfl) rfl (fun _ _ => rfl)) ?_
    refine wG rfl rfl (g_load rfl (.mk rfl rfl) rfl (rd_pt (.head _) rfl)) ?_
    refine wG rfl rfl (g_load rfl (.mk rfl rfl) rfl (rd_wb hc)) ?_
    refine wG rfl rfl (g_eq rfl (.mk rfl rfl) (.mk rfl rfl) (decide_eq_false (by omega))) ?_
    refine wG rfl rfl (g_assign rfl (.mk (v := .bool _) rfl rfl)) ?_
    refine WL.nil ?_
    (refine hK _ _ ?_; clear hK)
    refine WC.ret ?_
    exact fun w' hw' => ⟨by rw [decide_eq_false h]; rfl, hw'.1⟩
set_option maxHeartbeats 1000000 in
theorem shidx_e {w : World} {b c : Nat} {A : Option Addr} {ds : List Value} (hv : Sl w 3 (.slice A 7 c) 7 ([iv 2, iv 2, .slice none 0 0, iv 3, iv 3, .slice none 0 0] ++ ds)) (hc : w.cell? ⟨b, 0, none⟩ = some (iv 3)) :
    Calls Try.prog 74 #[.slice A 7 c, .func (.func 76) #[] [bpv b].toArray] w fun e w' => e = .returned (iv 1) ∧ Below w.heap.size w w' := by
  refine calls_wc (args := [.slice A 7 c, .func (.func 76) #[] [bpv b].toArray]) [4] ([]) Try.func74 rfl Try.ntmps74 rfl rfl rfl rfl (H.refl w) ?_
  refine WC.seq fun K hK => ?_
  refine WC.region rfl ?_
  refine wG rfl rfl (g_assign rfl (.mk (v := .int _ _) rfl rfl)) ?_
  refine WL.nil ?_
  (refine hK _ _ ?_; clear hK)
  refine WC.seq fun K hK => ?_
  refine WC.seq fun K hK => ?_
  refine WC.region rfl ?_
  refine wG rfl rfl (g_move rfl (.mk (v := .slice _ _ _) rfl rfl)) ?_
  refine wG rfl rfl (g_len rfl (.mk rfl rfl) rfl) ?_
  refine wG rfl rfl (g_move rfl (.mk (v := .int _ _) rfl rfl)) ?_
  refine WL.nil ?_
  (refine hK _ _ ?_; clear hK)
  refine WC.block ?_
  refine WC.loop (524080) (fun k : Nat => [(8, iv k)]) (fun _ => []) (fun k => k ≤ 1) (fun k => 7 - k) 0 ⟨rfl, trivial⟩ (.refl _) (by omega) ?_
  intro k U hk
  obtain rfl | rfl : k = 0 ∨ k = 1 := by omega
  · have g0 : ∀ j u, ([iv 2, iv 2, .slice none 0 0] : List Value)[j]? = some u → ([iv 2, iv 2, .slice none 0 0, iv 3, iv 3, .slice none 0 0] ++ ds : List Value)[0 * 3 + j]? = some u := fun j u h => pre_get (es := [iv 3, iv 3, .slice none 0 0] ++ ds) (by omega) h
    have HC : ∀ w', H w [] w' → Calls Try.prog 76 ([Value.agg #[iv 2, iv 2, .slice none 0 0]] ++ [bpv b]).toArray w' fun e w'' => e = .returned (.bool false) ∧ Below w'.heap.size w' w'' := fun w' hw' => shclo_e (kept_cell hw'.1 hc)
    refine WC.seq fun K hK => ?_
    refine WC.region rfl ?_
    refine wG rfl rfl (g_lt rfl (.mk rfl rfl) (.mk rfl rfl) (decide_eq_true (by omega))) ?_
    refine WL.nil ?_
    (refine hK _ _ ?_; clear hK)
    refine WC.seq fun K hK => ?_
    refine WC.cond_true (.mk rfl rfl) ?_
    refine WC.skip ?_
    (refine hK _ _ ?_; clear hK)
    refine WC.seq fun K hK => ?_
    refine WC.block ?_
    refine WC.seq fun K hK => ?_
    refine WC.region rfl ?_
    refine wG rfl rfl (g_move rfl (.mk (v := .int _ _) rfl rfl)) ?_
    refine wG rfl rfl (g_assign rfl (.mk (v := .int _ _) rfl rfl)) ?_
    refine WL.nil ?_
    (refine hK _ _ ?_; clear hK)
    refine WC.seq fun K hK => ?_
    refine WC.region rfl ?_
    refine wG rfl rfl (g_move rfl (.mk (v := .func _ _ _) rfl rfl)) ?_
    refine wG rfl rfl (g_move rfl (.mk (v := .slice _ _ _) rfl rfl)) ?_
    refine wG rfl rfl (g_move rfl (.mk (v := .int _ _) rfl rfl)) ?_
    refine wG rfl rfl (g_indexAddr (sz := 3) rfl (.mk rfl rfl) (.mk rfl rfl) rfl rfl (show _ = ((0 : Nat) : Int) from rfl) (by omega) (fun _ _ => sl_some hv (by omega))) ?_
    refine wG rfl rfl (g_loadA rfl (.mk rfl rfl) rfl rfl (rdr_sl (cs := [iv 2, iv 2, .slice none 0 0]) hv (by omega) g0)) ?_
    refine WL.want rfl (WL1.callVP rfl rfl (.mk rfl rfl) (by first | assumption | rfl) (.cons (.mk (v := .agg _) rfl rfl) .nil) (fun w hw => HC w hw) ?_)
    refine WL.nil ?_
    (refine hK _ _ ?_; clear hK)
    refine WC.cond_false (.mk rfl rfl) ?_
    refine WC.skip ?_
    (refine hK _ _ ?_; clear hK)
    refine WC.region rfl ?_
    refine wG rfl rfl (g_add rfl (.mk rfl rfl) (.mk rfl rfl) (IntWalk.i64_in _ (by omega))) ?_
    refine wG rfl rfl (g_move rfl (.mk (v := .int _ _) rfl rfl)) ?_
    refine WL.nil ?_
    exact ⟨1, (by repeat (first | with_reducible exact Out.refl _ _ | refine Out.set rfl ?_ | refine Out.put rfl ?_ | refine Out.sets rfl ?_ | refine Out.hav rfl ?_ | exact Out.refl _ _)), ⟨rfl, trivial⟩, .refl _, by omega, by omega⟩
  · have g0 : ∀ j u, ([iv 3, iv 3, .slice none 0 0] : List Value)[j]? = some u → ([iv 2, iv 2, .slice none 0 0, iv 3, iv 3, .slice none 0 0] ++ ds : List Value)[1 * 3 + j]? = some u := fun j u h => by
      match j, h with
      | 0, h => exact h
      | 1, h => exact h
      | 2, h => exact h
      | j + 3, h => simp at h
    have HC : ∀ w', H w [] w' → Calls Try.prog 76 ([Value.agg #[iv 3, iv 3, .slice none 0 0]] ++ [bpv b]).toArray w' fun e w'' => e = .returned (.bool true) ∧ Below w'.heap.size w' w'' := fun w' hw' => shclo_e (kept_cell hw'.1 hc)
    refine WC.seq fun K hK => ?_
    refine WC.region rfl ?_
    refine wG rfl rfl (g_lt rfl (.mk rfl rfl) (.mk rfl rfl) (decide_eq_true (by omega))) ?_
    refine WL.nil ?_
    (refine hK _ _ ?_; clear hK)
    refine WC.seq fun K hK => ?_
    refine WC.cond_true (.mk rfl rfl) ?_
    refine WC.skip ?_
    (refine hK _ _ ?_; clear hK)
    refine WC.seq fun K hK => ?_
    refine WC.block ?_
    refine WC.seq fun K hK => ?_
    refine WC.region rfl ?_
    refine wG rfl rfl (g_move rfl (.mk (v := .int _ _) rfl rfl)) ?_
    refine wG rfl rfl (g_assign rfl (.mk (v := .int _ _) rfl rfl)) ?_
    refine WL.nil ?_
    (refine hK _ _ ?_; clear hK)
    refine WC.seq fun K hK => ?_
    refine WC.region rfl ?_
    refine wG rfl rfl (g_move rfl (.mk (v := .func _ _ _) rfl rfl)) ?_
    refine wG rfl rfl (g_move rfl (.mk (v := .slice _ _ _) rfl rfl)) ?_
    refine wG rfl rfl (g_move rfl (.mk (v := .int _ _) rfl rfl)) ?_
    refine wG rfl rfl (g_indexAddr (sz := 3) rfl (.mk rfl rfl) (.mk rfl rfl) rfl rfl (show _ = ((1 : Nat) : Int) from rfl) (by omega) (fun _ _ => sl_some hv (by omega))) ?_
    refine wG rfl rfl (g_loadA rfl (.mk rfl rfl) rfl rfl (rdr_sl (cs := [iv 3, iv 3, .slice none 0 0]) hv (by omega) g0)) ?_
    refine WL.want rfl (WL1.callVP rfl rfl (.mk rfl rfl) (by first | assumption | rfl) (.cons (.mk (v := .agg _) rfl rfl) .nil) (fun w hw => HC w hw) ?_)
    refine WL.nil ?_
    (refine hK _ _ ?_; clear hK)
    refine WC.cond_true (.mk rfl rfl) ?_
    refine WC.seq fun K hK => ?_
    refine WC.region rfl ?_
    refine wG rfl rfl (g_move rfl (.mk (v := .int _ _) rfl rfl)) ?_
    refine wG rfl rfl (g_assign rfl (.mk (v := .int _ _) rfl rfl)) ?_
    refine WL.nil ?_
    (refine hK _ _ ?_; clear hK)
    refine WC.ret ?_
    exact fun w' hw' => ⟨rfl, hw'.1⟩
section
variable {P : Program} {n : Fr} {C : World → Prop} {o : Oper} {E : Env}
theorem g_makeFuncF {f : FuncId} {fs : List Operand} {vs : List Value} (ho : o.op = .makeFunc (.func f) fs.toArray #[]) (hv : Evs n E fs vs) : Gives P n C o E (.func (.func f) vs.toArray #[]) := fun w _ => by
  unfold execOp
  simp [ho, Instr.makeFunc, hv.map]
end
abbrev FT : TypeId := 132
def smR (a : Nat) : List Nat := (List.range 3).map fun b => (a % 3 + b % 3) % 3
def prR3 (a : Nat) : List Nat := (List.range 3).map fun b => a * b % 3
def smT (a : Nat) : List (List Nat) := (List.range a).map smR
def prT (a : Nat) : List (List Nat) := (List.range a).map prR3
theorem ldv_snocF (f : Nat → Nat) (b : Nat) : ldv ((List.range b).map f) ++ [iv (f b : Nat)] = ldv ((List.range (b + 1)).map f) := by
  rw [List.range_succ, List.map_append, List.map_singleton, ← ldv_snoc]
set_option maxHeartbeats 2000000 in
theorem sfnew_n (w : World) : Calls Try.prog 64 #[iv 3] w fun e w' => ∃ u M, e = .returned u ∧ H w M w' ∧ ∃ b S cS P cP sm pr, ils sm = smT 3 ∧ ils pr = prT 3 ∧ u = .tuple #[bpv b, iv 0] ∧
    M = pt b FT [iv 3, iv 3, .slice S 3 cS, .slice P 3 cP] :: vec S 3 cS 32 1 (sm.map IRow.v) :: rowsI sm :: vec P 3 cP 32 1 (pr.map IRow.v) :: rowsI pr :: [] := by
  have g1 : ∀ ds : List Value, ∀ j u, ([iv 3, iv 3, .slice none 0 0] : List Value)[j]? = some u → ([iv 2, iv 2, .slice none 0 0, iv 3, iv 3, .slice none 0 0] ++ ds : List Value)[1 * 3 + j]? = some u := fun ds j u h => by
    match j, h with
    | 0, h => exact h
    | 1, h => exact h
    | 2, h => exact h
    | j + 3, h => simp at h
  refine calls_wc (args := [iv 3]) [2, 3] [] Try.func64 rfl Try.ntmps64 rfl rfl rfl rfl (H.refl _) ?_
  refine WC.seq fun K hK => ?_
  refine WC.region rfl ?_
  refine WL.want rfl (WL1.box rfl rfl (.mk (v := .int _ _) rfl rfl) rfl (fun b1 => ?_))
  refine wG rfl rfl (g_assign rfl (.mk (v := .pointer _) rfl rfl)) ?_
  refine wG rfl rfl (g_assign rfl (.mk (v := .int _ _) rfl rfl)) ?_
  refine WL.nil ?_
  (refine hK _ _ ?_; clear hK)
  refine WC.seq fun K hK => ?_
  refine WC.region rfl ?_
  (refine WL.want rfl (WL1.callN rfl rfl rfl .nil (fun w hw => shapes_n w) ?_); rintro _ _ ⟨A1, c1, d1, rfl, rfl⟩)
  refine wG rfl rfl (g_makeFunc rfl (.cons (.mk (v := cellPtr _ _) rfl rfl) .nil)) ?_
  refine WL.want rfl (WL1.callP rfl rfl rfl (.cons (.mk (v := .slice _ _ _) rfl rfl) (.cons (.mk (v := .func _ _ _) rfl rfl) .nil)) (fun w hw => shidx_e (Sl.of_vec hw (.head _)) (cell_pt hw (by first | ((repeat (first | exact .head _ | apply List.Mem.tail)); done) | fail) rfl)) ?_)
  refine wG rfl rfl (g_assign rfl (.mk (v := .int _ _) rfl rfl)) ?_
  refine WL.nil ?_
  (refine hK _ _ ?_; clear hK)
  refine WC.seq fun K hK => ?_
  refine WC.seq fun K hK => ?_
  refine WC.region rfl ?_
  refine wG rfl rfl (g_move rfl (.mk (v := .int _ _) rfl rfl)) ?_
  refine wG rfl rfl (g_lt rfl (.mk rfl rfl) (.mk rfl rfl) (decide_eq_false (by omega))) ?_
  refine WL.nil ?_
  (refine hK _ _ ?_; clear hK)
  refine WC.cond_false (.mk rfl rfl) ?_
  refine WC.skip ?_
  (refine hK _ _ ?_; clear hK)
  refine WC.seq fun K hK => ?_
  refine WC.region rfl ?_
  (refine WL.want rfl (WL1.callN rfl rfl rfl .nil (fun w hw => shapes_n w) ?_); rintro _ _ ⟨A2, c2, d2, rfl, rfl⟩)
  refine wG rfl rfl (g_move rfl (.mk (v := .int _ _) rfl rfl)) ?_
  refine wG rfl rfl (g_indexAddr (sz := 3) rfl (.mk rfl rfl) (.mk rfl rfl) rfl rfl (show _ = ((1 : Nat) : Int) from rfl) (by omega) (fun w hw => vec_some hw (.head _) (by omega))) ?_
  refine wG rfl rfl (g_loadA rfl (.mk rfl rfl) rfl rfl (rdr_vec (cs := shV) (.head _) (by omega) (g1 _))) ?_
  refine WL.want rfl (WL1.alloc rfl rfl rfl rfl (fun b5 => ?_))
  refine WL.want rfl (WL1.storeAll rfl rfl (.mk rfl rfl) (.mk rfl rfl) rfl (all1 rfl) (by first | rfl | (simp [Blk.len]; done)) (.head) ?_)
  refine WL.nil ?_
  (refine hK _ _ ?_; clear hK)
  refine WC.seq fun K hK => ?_
  refine WC.region rfl ?_
  refine wG rfl rfl (g_loadA rfl (.mk rfl rfl) rfl rfl (rdr_pt (.head _) (fun j u h => by simpa using h))) ?_
  refine wG rfl rfl (g_makeFuncF (fs := [_]) rfl (.cons (.mk (v := .agg _) rfl rfl) .nil)) ?_
  refine wG rfl rfl (g_assign rfl (.mk (v := .func _ _ _) rfl rfl)) ?_
  refine WL.nil ?_
  (refine hK _ _ ?_; clear hK)
  refine WC.seq fun K hK => ?_
  refine WC.seq fun K hK => ?_
  refine WC.region rfl ?_
  refine wG rfl rfl (g_fieldAddr (off := 2) rfl (.mk rfl rfl) rfl (fun _ _ => rfl)) ?_
  refine wG rfl rfl (g_load rfl (.mk rfl rfl) rfl (rd_pt (.head _) rfl)) ?_
  refine wG rfl rfl (g_eqSNN rfl rfl (.mk rfl rfl) (.mk rfl rfl)) ?_
  refine WL.nil ?_
  (refine hK _ _ ?_; clear hK)
  refine WC.cond_true (.mk rfl rfl) ?_
  refine WC.region rfl ?_
  refine wG rfl rfl (g_makeFunc rfl (.cons (.mk (v := cellPtr _ _) rfl rfl) .nil)) ?_
  refine wG rfl rfl (g_assign rfl (.mk (v := .func _ _ _) rfl rfl)) ?_
  refine WL.nil ?_
  (refine hK _ _ ?_; clear hK)
  refine WC.seq fun K hK => ?_
  refine WC.region rfl ?_
  refine wG rfl rfl (g_load rfl (.mk rfl rfl) rfl (rd_pt (.tail _ (.tail _ (.tail _ (.head _)))) rfl)) ?_
  refine wG rfl rfl (g_fieldAddr (off := 1) rfl (.mk rfl rfl) rfl (fun _ _ => rfl)) ?_
  refine wG rfl rfl (g_load rfl (.mk rfl rfl) rfl (rd_pt (.head _) rfl)) ?_
  refine wG rfl rfl (g_build (cs := [_, _, _, _]) rfl rfl rfl rfl (.cons (.mk (v := .int _ _) rfl rfl) (.cons (.mk (v := .int _ _) rfl rfl) .nil)) rfl rfl rfl) ?_
  refine WL.want rfl (WL1.box rfl rfl (.mk (v := .agg _) rfl rfl) rfl (fun b31 => ?_))
  refine wG rfl rfl (g_assign rfl (.mk (v := cellPtr _ _) rfl rfl)) ?_
  refine WL.nil ?_
  (refine hK _ _ ?_; clear hK)
  refine WC.seq fun K hK => ?_
  refine WC.seq fun K hK => ?_
  refine WC.region rfl ?_
  refine wG rfl rfl (g_load rfl (.mk rfl rfl) rfl (rd_pt (.tail _ (.tail _ (.tail _ (.tail _ (.head _))))) rfl)) ?_
  refine wG rfl rfl (g_move rfl (.mk (v := .int _ _) rfl rfl)) ?_
  refine WL.nil ?_
  (refine hK _ _ ?_; clear hK)
  refine WC.block ?_
  refine WC.loopI5 (75557863725905733488384) (fun (a : Nat) (S : Option Addr × Nat) (P : Option Addr × Nat) (sm pr : List IRow) => [(33, iv a)]) (fun a S P sm pr => pt b31 FT [iv 3, iv 3, .slice S.1 a S.2, .slice P.1 a P.2] :: vec S.1 a S.2 32 1 (sm.map IRow.v) :: rowsI sm :: vec P.1 a P.2 32 1 (pr.map IRow.v) :: rowsI pr :: pt b5 SHT shV :: pt b1 3 [iv 3] :: []) (fun a _ _ sm pr => a ≤ 3 ∧ ils sm = smT a ∧ ils pr = prT a) (fun a _ _ _ _ => 3 - a) 0 (none, 0) (none, 0) [] [] ⟨rfl, trivial⟩ ?_ ⟨by omega, rfl, rfl⟩ ?_
  · exact Imp.trans (Imp.trans (imp_nilv 32 1) (Imp.trans (imp_nilv 32 1) (Imp.trans rowsI_none rowsI_none))) (Imp.pick (by repeat (first | exact .head | apply Take.tail)) (Imp.pick (by repeat (first | exact .head | apply Take.tail)) (Imp.pick (by repeat (first | exact .head | apply Take.tail)) (Imp.pick (by repeat (first | exact .head | apply Take.tail)) (Imp.pick (by repeat (first | exact .head | apply Take.tail)) (Imp.pick (by repeat (first | exact .head | apply Take.tail)) (Imp.pick (by repeat (first | exact .head | apply Take.tail)) (Imp.nil _))))))))
  rintro a ⟨S, cS⟩ ⟨Pp, cP⟩ sm pr U ⟨ha, hsm, hpr⟩
  dsimp only
  by_cases ha3 : a < 3
  · refine WC.seq fun K hK => ?_
    refine WC.region rfl ?_
    refine wG rfl rfl (g_lt rfl (.mk rfl rfl) (.mk rfl rfl) (decide_eq_true (by omega))) ?_
    refine WL.nil ?_
    (refine hK _ _ ?_; clear hK)
    refine WC.seq fun K hK => ?_
    refine WC.cond_true (.mk rfl rfl) ?_
    refine WC.skip ?_
    (refine hK _ _ ?_; clear hK)
    refine WC.seq fun K hK => ?_
    refine WC.block ?_
    refine WC.seq fun K hK => ?_
    refine WC.region rfl ?_
    refine wG rfl rfl (g_move rfl (.mk (v := .int _ _) rfl rfl)) ?_
    refine wG rfl rfl (g_assign rfl (.mk (v := .int _ _) rfl rfl)) ?_
    refine WL.nil ?_
    (refine hK _ _ ?_; clear hK)
    refine WC.seq fun K hK => ?_
    refine WC.region rfl ?_
    refine wG rfl rfl (g_assign rfl (.mk (v := .slice _ _ _) rfl rfl)) ?_
    refine wG rfl rfl (g_assign rfl (.mk (v := .slice _ _ _) rfl rfl)) ?_
    refine WL.nil ?_
    (refine hK _ _ ?_; clear hK)
    refine WC.seq fun K hK => ?_
    refine WC.seq fun K hK => ?_
    refine WC.region rfl ?_
    refine wG rfl rfl (g_load rfl (.mk rfl rfl) rfl (rd_pt (.tail _ (.tail _ (.tail _ (.tail _ (.tail _ (.tail _ (.head _))))))) rfl)) ?_
    refine wG rfl rfl (g_move rfl (.mk (v := .int _ _) rfl rfl)) ?_
    refine WL.nil ?_
    (refine hK _ _ ?_; clear hK)
    refine WC.block ?_
    refine WC.nilvec 3 1 (WC.nilvec 3 1 ?_)
    refine WC.loopI3 (36028659580014080) (fun (b : Nat) (X : Option Addr × Nat) (Y : Option Addr × Nat) => [(37, iv b), (9, .slice X.1 b X.2), (10, .slice Y.1 b Y.2)]) (fun b X Y => vec X.1 b X.2 3 1 (ldv ((List.range b).map fun b => (a % 3 + b % 3) % 3)) :: vec Y.1 b Y.2 3 1 (ldv ((List.range b).map fun b => a * b % 3)) :: pt b31 FT [iv 3, iv 3, .slice S a cS, .slice Pp a cP] :: vec S a cS 32 1 (sm.map IRow.v) :: rowsI sm :: vec Pp a cP 32 1 (pr.map IRow.v) :: rowsI pr :: pt b5 SHT shV :: pt b1 3 [iv 3] :: []) (fun b _ _ => b ≤ 3) (fun b _ _ => 3 - b) 0 (none, 0) (none, 0) ⟨rfl, rfl, rfl, trivial⟩ (Imp.refl _) (by omega) ?_
    rintro b ⟨X, cX⟩ ⟨Y, cY⟩ U2 hb
    dsimp only
    by_cases hb3 : b < 3
    · have h1 := fun w => sadd_e a b w (by omega) (by omega)
      have e1 : ldv ((List.range b).map fun b => (a % 3 + b % 3) % 3) ++ [iv ((a % 3 + b % 3) % 3 : Nat)] = ldv ((List.range (b + 1)).map fun b => (a % 3 + b % 3) % 3) := ldv_snocF _ b
      have e2 : ldv ((List.range b).map fun b => a * b % 3) ++ [iv (a * b % 3 : Nat)] = ldv ((List.range (b + 1)).map fun b => a * b % 3) := ldv_snocF _ b
      generalize hz1 : (a % 3 + b % 3) % 3 = z1 at h1 e1
      generalize hz2 : a * b % 3 = z2 at e2
      have h2 : ∀ {L : List Asrt} {w' : World}, pt b5 SHT shV ∈ L → H w L w' → Calls Try.prog 78 ([iv a, iv b] ++ [bpv b5]).toArray w' fun e w'' => e = .returned (iv z2) ∧ Below w'.heap.size w' w'' := fun hm hw' => by
        have := smul_e a b (by omega) (by omega) hm hw'
        rwa [hz2] at this
      refine WC.seq fun K hK => ?_
      refine WC.region rfl ?_
      refine wG rfl rfl (g_lt rfl (.mk rfl rfl) (.mk rfl rfl) (decide_eq_true (by omega))) ?_
      refine WL.nil ?_
      (refine hK _ _ ?_; clear hK)
      refine WC.seq fun K hK => ?_
      refine WC.cond_true (.mk rfl rfl) ?_
      refine WC.skip ?_
      (refine hK _ _ ?_; clear hK)
      refine WC.seq fun K hK => ?_
      refine WC.block ?_
      refine WC.seq fun K hK => ?_
      refine WC.region rfl ?_
      refine wG rfl rfl (g_move rfl (.mk (v := .int _ _) rfl rfl)) ?_
      refine wG rfl rfl (g_assign rfl (.mk (v := .int _ _) rfl rfl)) ?_
      refine WL.nil ?_
      (refine hK _ _ ?_; clear hK)
      refine WC.region rfl ?_
      refine wG rfl rfl (g_move rfl (.mk (v := .slice _ _ _) rfl rfl)) ?_
      refine wG rfl rfl (g_loadA rfl (.mk rfl rfl) rfl rfl (rdr_pt (.tail _ (.tail _ (.tail _ (.tail _ (.tail _ (.tail _ (.tail _ (.head _)))))))) (fun j u h => by simpa using h))) ?_
      refine wG rfl rfl (g_move rfl (.mk (v := .int _ _) rfl rfl)) ?_
      refine wG rfl rfl (g_move rfl (.mk (v := .int _ _) rfl rfl)) ?_
      refine WL.want rfl (WL1.callP rfl rfl rfl (.cons (.mk (v := .agg _) rfl rfl) (.cons (.mk (v := .int _ _) rfl rfl) (.cons (.mk (v := .int _ _) rfl rfl) .nil))) (fun w hw => h1 w) ?_)
      refine WL.want rfl (WL1.lit (cs := [_]) elI rfl rfl rfl (.cons (.mk (v := .int _ _) rfl rfl) .nil) rfl (by first | (simp [Value.cells]; done) | fail) rfl rfl (fun b45 => ?_))
      refine WL.want rfl (WL1.append elI rfl rfl (.mk rfl rfl) (.mk rfl rfl) (.tail (.head)) (fun w hw => Sl.of_vec hw (.head _)) (all1 rfl) (by unfold maxLen; omega) (by omega) (fun A46 c46 => ?_))
      refine wG rfl rfl (g_move rfl (.mk (v := .slice _ _ _) rfl rfl)) ?_
      refine wG rfl rfl (g_move rfl (.mk (v := .func _ _ _) rfl rfl)) ?_
      refine wG rfl rfl (g_move rfl (.mk (v := .int _ _) rfl rfl)) ?_
      refine wG rfl rfl (g_move rfl (.mk (v := .int _ _) rfl rfl)) ?_
      refine WL.want rfl (WL1.callVP rfl rfl (.mk rfl rfl) (by first | assumption | rfl) (.cons (.mk (v := .int _ _) rfl rfl) (.cons (.mk (v := .int _ _) rfl rfl) .nil)) (fun w hw => h2 (by first | ((repeat (first | exact .head _ | apply List.Mem.tail)); done) | fail) hw) ?_)
      refine WL.want rfl (WL1.lit (cs := [_]) elI rfl rfl rfl (.cons (.mk (v := .int _ _) rfl rfl) .nil) rfl (by first | (simp [Value.cells]; done) | fail) rfl rfl (fun b52 => ?_))
      refine WL.want rfl (WL1.append elI rfl rfl (.mk rfl rfl) (.mk rfl rfl) (.tail (.tail (.tail (.head)))) (fun w hw => Sl.of_vec hw (.head _)) (all1 rfl) (by unfold maxLen; omega) (by omega) (fun A53 c53 => ?_))
      refine wG rfl rfl (g_assign rfl (.mk (v := .slice _ _ _) rfl rfl)) ?_
      refine wG rfl rfl (g_assign rfl (.mk (v := .slice _ _ _) rfl rfl)) ?_
      refine WL.nil ?_
      (refine hK _ _ ?_; clear hK)
      refine WC.region rfl ?_
      refine wG rfl rfl (g_add rfl (.mk rfl rfl) (.mk rfl rfl) (IntWalk.i64_in _ (by omega))) ?_
      refine wG rfl rfl (g_move rfl (.mk (v := .int _ _) rfl rfl)) ?_
      refine WL.nil ?_
      refine ⟨b + 1, (A46, c46), (A53, c53), (by repeat (first | with_reducible exact Out.refl _ _ | refine Out.set rfl ?_ | refine Out.put rfl ?_ | refine Out.sets rfl ?_ | refine Out.hav rfl ?_ | exact Out.refl _ _)), ⟨rfl, rfl, rfl, trivial⟩, ?_, by omega, by omega⟩
      dsimp only
      rw [← e1, ← e2]
      exact Imp.pick (by repeat (first | exact .head | apply Take.tail)) (Imp.pick (by repeat (first | exact .head | apply Take.tail)) (Imp.pick (by repeat (first | exact .head | apply Take.tail)) (Imp.pick (by repeat (first | exact .head | apply Take.tail)) (Imp.pick (by repeat (first | exact .head | apply Take.tail)) (Imp.pick (by repeat (first | exact .head | apply Take.tail)) (Imp.pick (by repeat (first | exact .head | apply Take.tail)) (Imp.pick (by repeat (first | exact .head | apply Take.tail)) (Imp.pick (by repeat (first | exact .head | apply Take.tail)) (Imp.nil _)))))))))
    · obtain rfl : b = 3 := by omega
      refine WC.seq fun K hK => ?_
      refine WC.region rfl ?_
      refine wG rfl rfl (g_lt rfl (.mk rfl rfl) (.mk rfl rfl) (decide_eq_false (by omega))) ?_
      refine WL.nil ?_
      (refine hK _ _ ?_; clear hK)
      refine WC.seq fun K hK => ?_
      refine WC.cond_false (.mk rfl rfl) ?_
      refine WC.exit ?_
      (clear hK; refine hK _ _ ?_; clear hK)
      refine WC.until [pt b31 FT [iv 3, iv 3, .slice S a cS, .slice Pp a cP]] [18, 19, 20, 21] rfl (by kernel_rfl) ?_
      refine WB.takeP 0 rfl (by decide +kernel) (by decide +kernel) (by decide +kernel) (by decide +kernel) rfl rfl (.inr (Imp.sub (by first | ((repeat (first | exact List.nil_sublist _ | exact List.Sublist.refl _ | apply List.Sublist.cons_cons | apply List.Sublist.cons)); done) | fail))) (g_move rfl (.mk (v := cellPtr _ _) rfl rfl)) ?_
      refine WB.takeP 1 rfl (by decide +kernel) (by decide +kernel) (by decide +kernel) (by decide +kernel) rfl rfl (.inr (Imp.sub (by first | ((repeat (first | exact List.nil_sublist _ | exact List.Sublist.refl _ | apply List.Sublist.cons_cons | apply List.Sublist.cons)); done) | fail))) (g_move rfl (.mk (v := cellPtr _ _) rfl rfl)) ?_
      refine WB.takeP 2 rfl (by decide +kernel) (by decide +kernel) (by decide +kernel) (by decide +kernel) rfl rfl (.inr (Imp.sub (by first | ((repeat (first | exact List.nil_sublist _ | exact List.Sublist.refl _ | apply List.Sublist.cons_cons | apply List.Sublist.cons)); done) | fail))) (g_move rfl (.mk (v := cellPtr _ _) rfl rfl)) ?_
      refine WB.takeP 3 rfl (by decide +kernel) (by decide +kernel) (by decide +kernel) (by decide +kernel) rfl rfl (.inr (Imp.sub (by first | ((repeat (first | exact List.nil_sublist _ | exact List.Sublist.refl _ | apply List.Sublist.cons_cons | apply List.Sublist.cons)); done) | fail))) (g_nilCheck rfl (.mk rfl rfl) (fun _ _ => rfl)) ?_
      refine WB.takeP 4 rfl (by decide +kernel) (by decide +kernel) (by decide +kernel) (by decide +kernel) rfl rfl (.inr (Imp.sub (by first | ((repeat (first | exact List.nil_sublist _ | exact List.Sublist.refl _ | apply List.Sublist.cons_cons | apply List.Sublist.cons)); done) | fail))) (g_fieldAddr (off := 2) rfl (.mk rfl rfl) rfl (fun _ _ => rfl)) ?_
      refine WB.take 5 rfl (by decide +kernel) (by decide +kernel) (by decide +kernel) (by decide +kernel) rfl rfl (Imp.sub (by first | ((repeat (first | exact List.nil_sublist _ | exact List.Sublist.refl _ | apply List.Sublist.cons_cons | apply List.Sublist.cons)); done) | fail)) (g_load rfl (.mk rfl rfl) rfl (rd_pt (.head _) rfl)) ?_
      refine WB.takeP 6 rfl (by decide +kernel) (by decide +kernel) (by decide +kernel) (by decide +kernel) rfl rfl (.inr (Imp.sub (by first | ((repeat (first | exact List.nil_sublist _ | exact List.Sublist.refl _ | apply List.Sublist.cons_cons | apply List.Sublist.cons)); done) | fail))) (g_move rfl (.mk (v := .slice _ _ _) rfl rfl)) ?_
      refine WB.takeP 9 rfl (by decide +kernel) (by decide +kernel) (by decide +kernel) (by decide +kernel) rfl rfl (.inr (Imp.sub (by first | ((repeat (first | exact List.nil_sublist _ | exact List.Sublist.refl _ | apply List.Sublist.cons_cons | apply List.Sublist.cons)); done) | fail))) (g_move rfl (.mk (v := cellPtr _ _) rfl rfl)) ?_
      refine WB.takeP 10 rfl (by decide +kernel) (by decide +kernel) (by decide +kernel) (by decide +kernel) rfl rfl (.inr (Imp.sub (by first | ((repeat (first | exact List.nil_sublist _ | exact List.Sublist.refl _ | apply List.Sublist.cons_cons | apply List.Sublist.cons)); done) | fail))) (g_nilCheck rfl (.mk rfl rfl) (fun _ _ => rfl)) ?_
      refine WB.takeP 11 rfl (by decide +kernel) (by decide +kernel) (by decide +kernel) (by decide +kernel) rfl rfl (.inr (Imp.sub (by first | ((repeat (first | exact List.nil_sublist _ | exact List.Sublist.refl _ | apply List.Sublist.cons_cons | apply List.Sublist.cons)); done) | fail))) (g_fieldAddr (off := 3) rfl (.mk rfl rfl) rfl (fun _ _ => rfl)) ?_
      refine WB.take 12 rfl (by decide +kernel) (by decide +kernel) (by decide +kernel) (by decide +kernel) rfl rfl (Imp.sub (by first | ((repeat (first | exact List.nil_sublist _ | exact List.Sublist.refl _ | apply List.Sublist.cons_cons | apply List.Sublist.cons)); done) | fail)) (g_load rfl (.mk rfl rfl) rfl (rd_pt (.head _) rfl)) ?_
      refine WB.takeP 13 rfl (by decide +kernel) (by decide +kernel) (by decide +kernel) (by decide +kernel) rfl rfl (.inr (Imp.sub (by first | ((repeat (first | exact List.nil_sublist _ | exact List.Sublist.refl _ | apply List.Sublist.cons_cons | apply List.Sublist.cons)); done) | fail))) (g_move rfl (.mk (v := .slice _ _ _) rfl rfl)) ?_
      refine WB.two 7 14 (by decide +kernel) rfl rfl rfl rfl ?_ ?_
      refine WL1.lit (cs := [_]) elRI rfl rfl rfl (.cons (.mk (v := .slice _ _ _) rfl rfl) .nil) rfl (by first | (simp [Value.cells]; done) | fail) rfl rfl (fun b62 => ?_)
      refine WL.nil ?_
      refine ⟨.inr (Imp.sub (by first | ((repeat (first | exact List.nil_sublist _ | exact List.Sublist.refl _ | apply List.Sublist.cons_cons | apply List.Sublist.cons)); done) | fail)), ?_⟩
      refine WB.two 8 14 (by decide +kernel) rfl rfl rfl rfl ?_ ?_
      refine WL1.append elRI rfl rfl (.mk rfl rfl) (.mk rfl rfl) (.tail (.tail (.tail (.tail (.head))))) (fun w hw => Sl.of_vec hw (.head _)) (all1 rfl) (by unfold maxLen; omega) (by omega) (fun A63 c63 => ?_)
      refine WL.nil ?_
      refine ⟨.inr (Imp.sub (by first | ((repeat (first | exact List.nil_sublist _ | exact List.Sublist.refl _ | apply List.Sublist.cons_cons | apply List.Sublist.cons)); done) | fail)), ?_⟩
      refine WB.one 14 (by decide +kernel) rfl rfl ?_
      refine WL1.lit (cs := [_]) elRI rfl rfl rfl (.cons (.mk (v := .slice _ _ _) rfl rfl) .nil) rfl (by first | (simp [Value.cells]; done) | fail) rfl rfl (fun b69 => ?_)
      refine WL.nil ?_
      refine ⟨.inr (Imp.sub (by first | ((repeat (first | exact List.nil_sublist _ | exact List.Sublist.refl _ | apply List.Sublist.cons_cons | apply List.Sublist.cons)); done) | fail)), ?_⟩
      refine WB.one 15 (by decide +kernel) rfl rfl ?_
      refine WL1.append elRI rfl rfl (.mk rfl rfl) (.mk rfl rfl) (.tail (.tail (.tail (.tail (.tail (.tail (.tail (.head)))))))) (fun w hw => Sl.of_vec hw (.head _)) (all1 rfl) (by unfold maxLen; omega) (by omega) (fun A70 c70 => ?_)
      refine WL.nil ?_
      refine ⟨.inr (Imp.sub (by first | ((repeat (first | exact List.nil_sublist _ | exact List.Sublist.refl _ | apply List.Sublist.cons_cons | apply List.Sublist.cons)); done) | fail)), ?_⟩
      refine WB.takeP 16 rfl (by decide +kernel) (by decide +kernel) (by decide +kernel) (by decide +kernel) rfl rfl (.inr (Imp.sub (by first | ((repeat (first | exact List.nil_sublist _ | exact List.Sublist.refl _ | apply List.Sublist.cons_cons | apply List.Sublist.cons)); done) | fail))) (g_nilCheck rfl (.mk rfl rfl) (fun _ _ => rfl)) ?_
      refine WB.takeP 17 rfl (by decide +kernel) (by decide +kernel) (by decide +kernel) (by decide +kernel) rfl rfl (.inr (Imp.sub (by first | ((repeat (first | exact List.nil_sublist _ | exact List.Sublist.refl _ | apply List.Sublist.cons_cons | apply List.Sublist.cons)); done) | fail))) (g_fieldAddr (off := 2) rfl (.mk rfl rfl) rfl (fun _ _ => rfl)) ?_
      refine WB.one 18 (by decide +kernel) rfl rfl ?_
      refine WL1.store1 rfl rfl (.mk rfl rfl) (.mk (v := .slice _ _ _) rfl rfl) rfl rfl (Nat.le_of_ble_eq_true rfl) (.tail (.tail (.tail (.tail (.tail (.tail (.head))))))) ?_
      refine WL.nil ?_
      refine ⟨.inl (by decide +kernel), ?_⟩
      refine WB.one 19 (by decide +kernel) rfl rfl ?_
      refine WL1.give rfl (g_nilCheck rfl (.mk rfl rfl) (fun _ _ => rfl)) ?_
      refine WL.nil ?_
      refine ⟨.inl (by decide +kernel), ?_⟩
      refine WB.one 20 (by decide +kernel) rfl rfl ?_
      refine WL1.give rfl (g_fieldAddr (off := 3) rfl (.mk rfl rfl) rfl (fun _ _ => rfl)) ?_
      refine WL.nil ?_
      refine ⟨.inl (by decide +kernel), ?_⟩
      refine WB.one 21 (by decide +kernel) rfl rfl ?_
      refine WL1.store1 rfl rfl (.mk rfl rfl) (.mk (v := .slice _ _ _) rfl rfl) rfl rfl (Nat.le_of_ble_eq_true rfl) (.tail (.tail (.tail (.tail (.tail (.tail (.head))))))) ?_
      refine WL.nil ?_
      refine ⟨.inl (by decide +kernel), ?_⟩
      refine WB.done (by decide +kernel) ?_
      (refine hK _ _ ?_; clear hK)
      refine WC.region rfl ?_
      refine wG rfl rfl (g_add rfl (.mk rfl rfl) (.mk rfl rfl) (IntWalk.i64_in _ (by omega))) ?_
      refine wG rfl rfl (g_move rfl (.mk (v := .int _ _) rfl rfl)) ?_
      refine WL.nil ?_
      rotate_left
      refine WL1.lit (cs := [_]) elRI rfl rfl rfl (.cons (.mk (v := .slice _ _ _) rfl rfl) .nil) rfl (by first | (simp [Value.cells]; done) | fail) rfl rfl (fun b69 => ?_)
      refine WL.nil ?_
      refine ⟨.inr (Imp.sub (by first | ((repeat (first | exact List.nil_sublist _ | exact List.Sublist.refl _ | apply List.Sublist.cons_cons | apply List.Sublist.cons)); done) | fail)), ?_⟩
      refine WB.one 8 (by decide +kernel) rfl rfl ?_
      refine WL1.append elRI rfl rfl (.mk rfl rfl) (.mk rfl rfl) (.tail (.tail (.tail (.tail (.tail (.head)))))) (fun w hw => Sl.of_vec hw (.tail _ (.head _))) (all1 rfl) (by unfold maxLen; omega) (by omega) (fun A63 c63 => ?_)
      refine WL.nil ?_
      refine ⟨.inr (Imp.sub (by first | ((repeat (first | exact List.nil_sublist _ | exact List.Sublist.refl _ | apply List.Sublist.cons_cons | apply List.Sublist.cons)); done) | fail)), ?_⟩
      refine WB.one 15 (by decide +kernel) rfl rfl ?_
      refine WL1.append elRI rfl rfl (.mk rfl rfl) (.mk rfl rfl) (.tail (.tail (.tail (.tail (.tail (.tail (.tail (.head)))))))) (fun w hw => Sl.of_vec hw (.tail _ (.head _))) (all1 rfl) (by unfold maxLen; omega) (by omega) (fun A70 c70 => ?_)
      refine WL.nil ?_
      refine ⟨.inr (Imp.sub (by first | ((repeat (first | exact List.nil_sublist _ | exact List.Sublist.refl _ | apply List.Sublist.cons_cons | apply List.Sublist.cons)); done) | fail)), ?_⟩
      refine WB.takeP 16 rfl (by decide +kernel) (by decide +kernel) (by decide +kernel) (by decide +kernel) rfl rfl (.inr (Imp.sub (by first | ((repeat (first | exact List.nil_sublist _ | exact List.Sublist.refl _ | apply List.Sublist.cons_cons | apply List.Sublist.cons)); done) | fail))) (g_nilCheck rfl (.mk rfl rfl) (fun _ _ => rfl)) ?_
      refine WB.takeP 17 rfl (by decide +kernel) (by decide +kernel) (by decide +kernel) (by decide +kernel) rfl rfl (.inr (Imp.sub (by first | ((repeat (first | exact List.nil_sublist _ | exact List.Sublist.refl _ | apply List.Sublist.cons_cons | apply List.Sublist.cons)); done) | fail))) (g_fieldAddr (off := 2) rfl (.mk rfl rfl) rfl (fun _ _ => rfl)) ?_
      refine WB.one 18 (by decide +kernel) rfl rfl ?_
      refine WL1.store1 rfl rfl (.mk rfl rfl) (.mk (v := .slice _ _ _) rfl rfl) rfl rfl (Nat.le_of_ble_eq_true rfl) (.tail (.tail (.tail (.tail (.tail (.tail (.head))))))) ?_
      refine WL.nil ?_
      refine ⟨.inl (by decide +kernel), ?_⟩
      refine WB.one 19 (by decide +kernel) rfl rfl ?_
      refine WL1.give rfl (g_nilCheck rfl (.mk rfl rfl) (fun _ _ => rfl)) ?_
      refine WL.nil ?_
      refine ⟨.inl (by decide +kernel), ?_⟩
      refine WB.one 20 (by decide +kernel) rfl rfl ?_
      refine WL1.give rfl (g_fieldAddr (off := 3) rfl (.mk rfl rfl) rfl (fun _ _ => rfl)) ?_
      refine WL.nil ?_
      refine ⟨.inl (by decide +kernel), ?_⟩
      refine WB.one 21 (by decide +kernel) rfl rfl ?_
      refine WL1.store1 rfl rfl (.mk rfl rfl) (.mk (v := .slice _ _ _) rfl rfl) rfl rfl (Nat.le_of_ble_eq_true rfl) (.tail (.tail (.tail (.tail (.tail (.tail (.head))))))) ?_
      refine WL.nil ?_
      refine ⟨.inl (by decide +kernel), ?_⟩
      refine WB.done (by decide +kernel) ?_
      (refine hK _ _ ?_; clear hK)
      refine WC.region rfl ?_
      refine wG rfl rfl (g_add rfl (.mk rfl rfl) (.mk rfl rfl) (IntWalk.i64_in _ (by omega))) ?_
      refine wG rfl rfl (g_move rfl (.mk (v := .int _ _) rfl rfl)) ?_
      refine WL.nil ?_
      rotate_left
      refine WL1.lit (cs := [_]) elRI rfl rfl rfl (.cons (.mk (v := .slice _ _ _) rfl rfl) .nil) rfl (by first | (simp [Value.cells]; done) | fail) rfl rfl (fun b69 => ?_)
      refine WL.nil ?_
      refine ⟨.inr (Imp.sub (by first | ((repeat (first | exact List.nil_sublist _ | exact List.Sublist.refl _ | apply List.Sublist.cons_cons | apply List.Sublist.cons)); done) | fail)), ?_⟩
      refine WB.one 7 (by decide +kernel) rfl rfl ?_
      refine WL1.lit (cs := [_]) elRI rfl rfl rfl (.cons (.mk (v := .slice _ _ _) rfl rfl) .nil) rfl (by first | (simp [Value.cells]; done) | fail) rfl rfl (fun b62 => ?_)
      refine WL.nil ?_
      refine ⟨.inr (Imp.sub (by first | ((repeat (first | exact List.nil_sublist _ | exact List.Sublist.refl _ | apply List.Sublist.cons_cons | apply List.Sublist.cons)); done) | fail)), ?_⟩
      refine WB.one 8 (by decide +kernel) rfl rfl ?_
      refine WL1.append elRI rfl rfl (.mk rfl rfl) (.mk rfl rfl) (.tail (.tail (.tail (.tail (.tail (.head)))))) (fun w hw => Sl.of_vec hw (.head _)) (all1 rfl) (by unfold maxLen; omega) (by omega) (fun A63 c63 => ?_)
      refine WL.nil ?_
      refine ⟨.inr (Imp.sub (by first | ((repeat (first | exact List.nil_sublist _ | exact List.Sublist.refl _ | apply List.Sublist.cons_cons | apply List.Sublist.cons)); done) | fail)), ?_⟩
      refine WB.one 15 (by decide +kernel) rfl rfl ?_
      refine WL1.append elRI rfl rfl (.mk rfl rfl) (.mk rfl rfl) (.tail (.tail (.tail (.tail (.tail (.tail (.tail (.head)))))))) (fun w hw => Sl.of_vec hw (.tail _ (.tail _ (.head _)))) (all1 rfl) (by unfold maxLen; omega) (by omega) (fun A70 c70 => ?_)
      refine WL.nil ?_
      refine ⟨.inr (Imp.sub (by first | ((repeat (first | exact List.nil_sublist _ | exact List.Sublist.refl _ | apply List.Sublist.cons_cons | apply List.Sublist.cons)); done) | fail)), ?_⟩
      refine WB.takeP 16 rfl (by decide +kernel) (by decide +kernel) (by decide +kernel) (by decide +kernel) rfl rfl (.inr (Imp.sub (by first | ((repeat (first | exact List.nil_sublist _ | exact List.Sublist.refl _ | apply List.Sublist.cons_cons | apply List.Sublist.cons)); done) | fail))) (g_nilCheck rfl (.mk rfl rfl) (fun _ _ => rfl)) ?_
      refine WB.takeP 17 rfl (by decide +kernel) (by decide +kernel) (by decide +kernel) (by decide +kernel) rfl rfl (.inr (Imp.sub (by first | ((repeat (first | exact List.nil_sublist _ | exact List.Sublist.refl _ | apply List.Sublist.cons_cons | apply List.Sublist.cons)); done) | fail))) (g_fieldAddr (off := 2) rfl (.mk rfl rfl) rfl (fun _ _ => rfl)) ?_
      refine WB.one 18 (by decide +kernel) rfl rfl ?_
      refine WL1.store1 rfl rfl (.mk rfl rfl) (.mk (v := .slice _ _ _) rfl rfl) rfl rfl (Nat.le_of_ble_eq_true rfl) (.tail (.tail (.tail (.tail (.tail (.tail (.head))))))) ?_
      refine WL.nil ?_
      refine ⟨.inl (by decide +kernel), ?_⟩
      refine WB.one 19 (by decide +kernel) rfl rfl ?_
      refine WL1.give rfl (g_nilCheck rfl (.mk rfl rfl) (fun _ _ => rfl)) ?_
      refine WL.nil ?_
      refine ⟨.inl (by decide +kernel), ?_⟩
      refine WB.one 20 (by decide +kernel) rfl rfl ?_
      refine WL1.give rfl (g_fieldAddr (off := 3) rfl (.mk rfl rfl) rfl (fun _ _ => rfl)) ?_
      refine WL.nil ?_
      refine ⟨.inl (by decide +kernel), ?_⟩
      refine WB.one 21 (by decide +kernel) rfl rfl ?_
      refine WL1.store1 rfl rfl (.mk rfl rfl) (.mk (v := .slice _ _ _) rfl rfl) rfl rfl (Nat.le_of_ble_eq_true rfl) (.tail (.tail (.tail (.tail (.tail (.tail (.head))))))) ?_
      refine WL.nil ?_
      refine ⟨.inl (by decide +kernel), ?_⟩
      refine WB.done (by decide +kernel) ?_
      (refine hK _ _ ?_; clear hK)
      refine WC.region rfl ?_
      refine wG rfl rfl (g_add rfl (.mk rfl rfl) (.mk rfl rfl) (IntWalk.i64_in _ (by omega))) ?_
      refine wG rfl rfl (g_move rfl (.mk (v := .int _ _) rfl rfl)) ?_
      refine WL.nil ?_
      rotate_left
      all_goals
        have o1 : (⟨X, cX, smR a⟩ : IRow).own = vec X 3 cX 3 1 (ldv ((List.range 3).map fun b => (a % 3 + b % 3) % 3)) := rfl
        have o2 : (⟨Y, cY, prR3 a⟩ : IRow).own = vec Y 3 cY 3 1 (ldv ((List.range 3).map fun b => a * b % 3)) := rfl
        have v1 : (sm ++ [(⟨X, cX, smR a⟩ : IRow)]).map IRow.v = sm.map IRow.v ++ [.slice X 3 cX] := by rw [List.map_append]; rfl
        have v2 : (pr ++ [(⟨Y, cY, prR3 a⟩ : IRow)]).map IRow.v = pr.map IRow.v ++ [.slice Y 3 cY] := by rw [List.map_append]; rfl
        refine ⟨a + 1, (A63, c63), (A70, c70), sm ++ [⟨X, cX, smR a⟩], pr ++ [⟨Y, cY, prR3 a⟩], (by repeat (first | with_reducible exact Out.refl _ _ | refine Out.set rfl ?_ | refine Out.put rfl ?_ | refine Out.sets rfl ?_ | refine Out.hav rfl ?_ | exact Out.refl _ _)), ⟨rfl, trivial⟩, ?_, ⟨by omega, ?_, ?_⟩, by omega⟩
        · dsimp only
          rw [v1, v2]
          refine Imp.trans (M := (⟨X, cX, smR a⟩ : IRow).own :: rowsI sm :: (⟨Y, cY, prR3 a⟩ : IRow).own :: rowsI pr :: pt b31 FT [iv 3, iv 3, .slice A63 (a + 1) c63, .slice A70 (a + 1) c70] :: vec A63 (a + 1) c63 32 1 (sm.map IRow.v ++ [.slice X 3 cX]) :: vec A70 (a + 1) c70 32 1 (pr.map IRow.v ++ [.slice Y 3 cY]) :: pt b5 SHT shV :: pt b1 3 [iv 3] :: []) ?_ ?_
          · rw [o1, o2]
            exact Imp.pick (by repeat (first | exact .head | apply Take.tail)) (Imp.pick (by repeat (first | exact .head | apply Take.tail)) (Imp.pick (by repeat (first | exact .head | apply Take.tail)) (Imp.pick (by repeat (first | exact .head | apply Take.tail)) (Imp.pick (by repeat (first | exact .head | apply Take.tail)) (Imp.pick (by repeat (first | exact .head | apply Take.tail)) (Imp.pick (by repeat (first | exact .head | apply Take.tail)) (Imp.pick (by repeat (first | exact .head | apply Take.tail)) (Imp.pick (by repeat (first | exact .head | apply Take.tail)) (Imp.nil _)))))))))
          · refine Imp.trans rowsI_new (Imp.trans (M := (⟨Y, cY, prR3 a⟩ : IRow).own :: rowsI pr :: rowsI (sm ++ [⟨X, cX, smR a⟩]) :: pt b31 FT [iv 3, iv 3, .slice A63 (a + 1) c63, .slice A70 (a + 1) c70] :: vec A63 (a + 1) c63 32 1 (sm.map IRow.v ++ [.slice X 3 cX]) :: vec A70 (a + 1) c70 32 1 (pr.map IRow.v ++ [.slice Y 3 cY]) :: pt b5 SHT shV :: pt b1 3 [iv 3] :: []) (Imp.pick (by repeat (first | exact .head | apply Take.tail)) (Imp.pick (by repeat (first | exact .head | apply Take.tail)) (Imp.refl _))) (Imp.trans rowsI_new ?_))
            exact Imp.pick (by repeat (first | exact .head | apply Take.tail)) (Imp.pick (by repeat (first | exact .head | apply Take.tail)) (Imp.pick (by repeat (first | exact .head | apply Take.tail)) (Imp.pick (by repeat (first | exact .head | apply Take.tail)) (Imp.pick (by repeat (first | exact .head | apply Take.tail)) (Imp.pick (by repeat (first | exact .head | apply Take.tail)) (Imp.pick (by repeat (first | exact .head | apply Take.tail)) (Imp.nil _)))))))
        · show (sm ++ [_]).map IRow.l = (List.range (a + 1)).map smR
          rw [List.map_append, show sm.map IRow.l = (List.range a).map smR from hsm, List.range_succ, List.map_append]; rfl
        · show (pr ++ [_]).map IRow.l = (List.range (a + 1)).map prR3
          rw [List.map_append, show pr.map IRow.l = (List.range a).map prR3 from hpr, List.range_succ, List.map_append]; rfl
  · obtain rfl : a = 3 := by omega
    refine WC.seq fun K hK => ?_
    refine WC.region rfl ?_
    refine wG rfl rfl (g_lt rfl (.mk rfl rfl) (.mk rfl rfl) (decide_eq_false (by omega))) ?_
    refine WL.nil ?_
    (refine hK _ _ ?_; clear hK)
    refine WC.seq fun K hK => ?_
    refine WC.cond_false (.mk rfl rfl) ?_
    refine WC.exit ?_
    (clear hK; refine hK _ _ ?_; clear hK)
    refine WC.seq fun K hK => ?_
    refine WC.region rfl ?_
    refine wG rfl rfl (g_move rfl (.mk (v := cellPtr _ _) rfl rfl)) ?_
    refine wG rfl rfl (g_assign rfl (.mk (v := cellPtr _ _) rfl rfl)) ?_
    refine wG rfl rfl (g_assign rfl (.mk (v := .int _ _) rfl rfl)) ?_
    refine WL.nil ?_
    (refine hK _ _ ?_; clear hK)
    refine WC.ret ?_
    exact fun w' hw' => ⟨_, _, rfl, hw'.sub (.cons_cons _ (.cons_cons _ (.cons_cons _ (.cons_cons _ (.cons_cons _ (List.nil_sublist _)))))), b31, S, cS, Pp, cP, sm, pr, hsm, hpr, rfl, rfl⟩
end Go.Proofs.Ytdcijljfgcjelaa
namespace Go.Proofs.Ytdcijljfgcjelaa
set_option maxRecDepth 20000
open Go.RowKit
attribute [local irreducible] Calls
def FldAt (w : World) (b : Nat) : Prop := ∃ S cS Pp cP sm pr, w.cell? ⟨b, 0, none⟩ = some (iv 3) ∧ w.cell? ⟨b, 2, none⟩ = some (.slice S 3 cS) ∧ w.cell? ⟨b, 3, none⟩ = some (.slice Pp 3 cP) ∧ IMat w (.slice S 3 cS) sm ∧ IMat w (.slice Pp 3 cP) pr ∧ ils sm = smT 3 ∧ ils pr = prT 3
theorem FldAt.below {w w' : World} {b : Nat} (h : FldAt w b) (hb : Below w.heap.size w w') : FldAt w' b := by
  obtain ⟨S, cS, Pp, cP, sm, pr, h0, h2, h3, hs, hp, e1, e2⟩ := h
  exact ⟨S, cS, Pp, cP, sm, pr, kept_cell hb h0, kept_cell hb h2, kept_cell hb h3, hs.below hb, hp.below hb, e1, e2⟩
theorem FldAt.of {w0 w : World} {L : List Asrt} {b cS cP : Nat} {S Pp : Option Addr} {sm pr : List IRow} (hw : H w0 L w) (h0 : pt b FT [iv 3, iv 3, .slice S 3 cS, .slice Pp 3 cP] ∈ L) (h1 : vec S 3 cS 32 1 (sm.map IRow.v) ∈ L) (h2 : rowsI sm ∈ L) (h3 : vec Pp 3 cP 32 1 (pr.map IRow.v) ∈ L) (h4 : rowsI pr ∈ L) (e1 : ils sm = smT 3) (e2 : ils pr = prT 3) : FldAt w b := by
  have l1 : sm.length = 3 := by have := congrArg List.length e1; rw [List.length_map] at this; rw [this]; rfl
  have l2 : pr.length = 3 := by have := congrArg List.length e2; rw [List.length_map] at this; rw [this]; rfl
  exact ⟨S, cS, Pp, cP, sm, pr, cell_pt hw h0 rfl, cell_pt hw h0 rfl, cell_pt hw h0 rfl, IMat.of_rows hw h1 h2 l1, IMat.of_rows hw h3 h4 l2, e1, e2⟩
theorem tab_row {w : World} {v : Value} {rs : List IRow} {f : Nat → List Nat} (h : IMat w v rs) (e : ils rs = (List.range 3).map f) {a : Nat} (ha : a < 3) (hl : (f a).length = 3) : a < rs.length ∧ ∃ A c, nth rs a = ⟨A, c, f a⟩ ∧ Sl w 1 (.slice A 3 c) 3 (ldv (f a)) := by
  have l : rs.length = 3 := by have := congrArg List.length e; rw [List.length_map] at this; rw [this]; simp
  have e1 : (nth rs a).l = f a := by rw [← ils_at (by omega), e]; exact nth_range _ ha
  have hr := h.row (k := a) (by omega)
  obtain ⟨A, c, l', hn⟩ : ∃ A c l', nth rs a = ⟨A, c, l'⟩ := ⟨_, _, _, rfl⟩
  rw [hn] at e1 hr
  dsimp only at e1
  subst e1
  refine ⟨by omega, A, c, hn, ?_⟩
  unfold IRow.v at hr
  dsimp only at hr
  rwa [hl] at hr
theorem has_e {w : World} {b : Nat} (a : Nat) (ha : a < 3) (hf : FldAt w b) : Calls Try.prog 80 #[bpv b, iv a] w fun e w' => e = .returned (.bool true) ∧ Below w.heap.size w w' := by
  obtain ⟨S, cS, Pp, cP, sm, pr, h0, h2, h3, hs, hp, e1, e2⟩ := hf
  refine calls_wc (args := [bpv b, iv a]) [4] [] Try.func80 rfl Try.ntmps80 rfl rfl rfl rfl (H.refl _) ?_
  refine WC.seq fun K hK => ?_
  refine WC.region rfl ?_
  refine wG rfl rfl (g_assign rfl (.mk (v := .bool _) rfl rfl)) ?_
  refine WL.nil ?_
  (refine hK _ _ ?_; clear hK)
  refine WC.seq fun K hK => ?_
  refine WC.region rfl ?_
  refine wG rfl rfl (g_move rfl (.mk (v := cellPtr _ _) rfl rfl)) ?_
  refine wG rfl rfl (g_nePN rfl (.mk rfl rfl) (.mk rfl rfl) rfl (fun _ _ => rfl)) ?_
  refine wG rfl rfl (g_move rfl (.mk (v := .bool _) rfl rfl)) ?_
  refine WL.wantG rfl rfl rfl rfl (WL1.give rfl (g_move rfl (.mk (v := .int _ _) rfl rfl)) ?_)
  refine WL.wantG rfl rfl rfl rfl (WL1.give rfl (g_ge rfl (.mk rfl rfl) (.mk rfl rfl) (decide_eq_true (by omega))) ?_)
  refine wG rfl rfl (g_pickT rfl (.mk rfl rfl) (.mk (v := .bool _) rfl rfl)) ?_
  refine wG rfl rfl (g_move rfl (.mk (v := .bool _) rfl rfl)) ?_
  refine WL.wantG rfl rfl rfl rfl (WL1.give rfl (g_move rfl (.mk (v := .int _ _) rfl rfl)) ?_)
  refine WL.wantG rfl rfl rfl rfl (WL1.give rfl (g_move rfl (.mk (v := cellPtr _ _) rfl rfl)) ?_)
  refine WL.wantG rfl rfl rfl rfl (WL1.give rfl (g_nilCheck rfl (.mk rfl rfl) (fun _ _ => rfl)) ?_)
  refine WL.wantG rfl rfl rfl rfl (WL1.give rfl (g_fieldAddr (off := 0) rfl (.mk rfl rfl) rfl (fun _ _ => rfl)) ?_)
  refine WL.wantG rfl rfl rfl rfl (WL1.give rfl (g_load rfl (.mk rfl rfl) rfl (rd_wb h0)) ?_)
  refine WL.wantG rfl rfl rfl rfl (WL1.give rfl (g_lt rfl (.mk rfl rfl) (.mk rfl rfl) (decide_eq_true (by omega))) ?_)
  refine wG rfl rfl (g_pickT rfl (.mk rfl rfl) (.mk (v := .bool _) rfl rfl)) ?_
  refine wG rfl rfl (g_assign rfl (.mk (v := .bool _) rfl rfl)) ?_
  refine WL.nil ?_
  (refine hK _ _ ?_; clear hK)
  refine WC.ret ?_
  exact fun w' hw' => ⟨rfl, hw'.1⟩
set_option maxHeartbeats 1000000 in
theorem fadd_e {w : World} {b : Nat} (x y : Nat) (hx : x < 3) (hy : y < 3) (hf : FldAt w b) : Calls Try.prog 65 #[bpv b, iv x, iv y] w fun e w' => e = .returned (iv ((x % 3 + y % 3) % 3 : Nat)) ∧ Below w.heap.size w w' := by
  have h1 := fun w' (hb : Below w.heap.size w w') => has_e x hx (hf.below hb)
  have h1y := fun w' (hb : Below w.heap.size w w') => has_e y hy (hf.below hb)
  obtain ⟨S, cS, Pp, cP, sm, pr, h0, h2, h3, hs, hp, e1, e2⟩ := hf
  obtain ⟨hl, A, c, hn, hr⟩ := tab_row hs e1 hx rfl
  have hsl := hs.1
  have hl3 : sm.length = 3 := by have := congrArg List.length e1; rw [List.length_map] at this; rw [this]; rfl
  rw [hl3] at hsl
  have hcell : (sm.map IRow.v)[x * 1]? = some (.slice A 3 c) := by rw [irowv_get hl, hn]; rfl
  have hv : (ldv (smR x))[y * 1]? = some (iv ((x % 3 + y % 3) % 3 : Nat)) := by
    rw [ldv_get (by exact hy : y < (smR x).length)]
    congr 3
    exact nth_range _ hy
  refine calls_wc (args := [bpv b, iv x, iv y]) [6] [] Try.func65 rfl Try.ntmps65 rfl rfl rfl rfl (H.refl _) ?_
  refine WC.seq fun K hK => ?_
  refine WC.region rfl ?_
  refine wG rfl rfl (g_assign rfl (.mk (v := .int _ _) rfl rfl)) ?_
  refine WL.nil ?_
  (refine hK _ _ ?_; clear hK)
  refine WC.seq fun K hK => ?_
  refine WC.seq fun K hK => ?_
  refine WC.region rfl ?_
  refine wG rfl rfl (g_move rfl (.mk (v := cellPtr _ _) rfl rfl)) ?_
  refine wG rfl rfl (g_move rfl (.mk (v := .int _ _) rfl rfl)) ?_
  refine WL.want rfl (WL1.callP rfl rfl rfl (.cons (.mk (v := cellPtr _ _) rfl rfl) (.cons (.mk (v := .int _ _) rfl rfl) .nil)) (fun w hw => h1 w hw.1) ?_)
  refine wG rfl rfl (g_notT rfl (.mk rfl rfl)) ?_
  refine wG rfl rfl (g_move rfl (.mk (v := .bool _) rfl rfl)) ?_
  refine WL.wantG rfl rfl rfl rfl (WL1.give rfl (g_move rfl (.mk (v := cellPtr _ _) rfl rfl)) ?_)
  refine WL.wantG rfl rfl rfl rfl (WL1.give rfl (g_move rfl (.mk (v := .int _ _) rfl rfl)) ?_)
  refine WL.wantG rfl rfl rfl rfl (WL1.callP rfl rfl rfl (.cons (.mk (v := cellPtr _ _) rfl rfl) (.cons (.mk (v := .int _ _) rfl rfl) .nil)) (fun w hw => h1y w hw.1) ?_)
  refine WL.wantG rfl rfl rfl rfl (WL1.give rfl (g_notT rfl (.mk rfl rfl)) ?_)
  refine wG rfl rfl (g_pickF rfl (.mk rfl rfl) (.mk (v := .bool _) rfl rfl)) ?_
  refine WL.nil ?_
  (refine hK _ _ ?_; clear hK)
  refine WC.cond_false (.mk rfl rfl) ?_
  refine WC.skip ?_
  (refine hK _ _ ?_; clear hK)
  refine WC.seq fun K hK => ?_
  refine WC.region rfl ?_
  refine wG rfl rfl (g_move rfl (.mk (v := cellPtr _ _) rfl rfl)) ?_
  refine wG rfl rfl (g_nilCheck rfl (.mk rfl rfl) (fun _ _ => rfl)) ?_
  refine wG rfl rfl (g_fieldAddr (off := 2) rfl (.mk rfl rfl) rfl (fun _ _ => rfl)) ?_
  refine wG rfl rfl (g_load rfl (.mk rfl rfl) rfl (rd_wb h2)) ?_
  refine wG rfl rfl (g_move rfl (.mk (v := .int _ _) rfl rfl)) ?_
  refine wG rfl rfl (g_indexAddr (sz := 1) rfl (.mk rfl rfl) (.mk rfl rfl) rfl rfl rfl (by omega) (fun _ _ => sl_some hsl (by omega))) ?_
  refine wG rfl rfl (g_load rfl (.mk rfl rfl) rfl (rd_sl hsl hcell)) ?_
  refine wG rfl rfl (g_move rfl (.mk (v := .int _ _) rfl rfl)) ?_
  refine wG rfl rfl (g_indexAddr (sz := 1) rfl (.mk rfl rfl) (.mk rfl rfl) rfl rfl rfl (by omega) (fun _ _ => sl_some hr (by omega))) ?_
  refine wG rfl rfl (g_load rfl (.mk rfl rfl) rfl (rd_sl hr hv)) ?_
  refine wG rfl rfl (g_assign rfl (.mk (v := .int _ _) rfl rfl)) ?_
  refine WL.nil ?_
  (refine hK _ _ ?_; clear hK)
  refine WC.ret ?_
  exact fun w' hw' => ⟨rfl, hw'.1⟩
set_option maxHeartbeats 1000000 in
theorem fmul_e {w : World} {b : Nat} (x y : Nat) (hx : x < 3) (hy : y < 3) (hf : FldAt w b) : Calls Try.prog 66 #[bpv b, iv x, iv y] w fun e w' => e = .returned (iv (x * y % 3 : Nat)) ∧ Below w.heap.size w w' := by
  have h1 := fun w' (hb : Below w.heap.size w w') => has_e x hx (hf.below hb)
  have h1y := fun w' (hb : Below w.heap.size w w') => has_e y hy (hf.below hb)
  obtain ⟨S, cS, Pp, cP, sm, pr, h0, h2, h3, hs, hp, e1, e2⟩ := hf
  obtain ⟨hl, A, c, hn, hr⟩ := tab_row hp e2 hx rfl
  have hsl := hp.1
  have hl3 : pr.length = 3 := by have := congrArg List.length e2; rw [List.length_map] at this; rw [this]; rfl
  rw [hl3] at hsl
  have hcell : (pr.map IRow.v)[x * 1]? = some (.slice A 3 c) := by rw [irowv_get hl, hn]; rfl
  have hv : (ldv (prR3 x))[y * 1]? = some (iv (x * y % 3 : Nat)) := by
    rw [ldv_get (by exact hy : y < (prR3 x).length)]
    congr 3
    exact nth_range _ hy
  generalize x * y % 3 = z at *
  refine calls_wc (args := [bpv b, iv x, iv y]) [6] [] Try.func66 rfl Try.ntmps66 rfl rfl rfl rfl (H.refl _) ?_
  refine WC.seq fun K hK => ?_
  refine WC.region rfl ?_
  refine wG rfl rfl (g_assign rfl (.mk (v := .int _ _) rfl rfl)) ?_
  refine WL.nil ?_
  (refine hK _ _ ?_; clear hK)
  refine WC.seq fun K hK => ?_
  refine WC.seq fun K hK => ?_
  refine WC.region rfl ?_
  refine wG rfl rfl (g_move rfl (.mk (v := cellPtr _ _) rfl rfl)) ?_
  refine wG rfl rfl (g_move rfl (.mk (v := .int _ _) rfl rfl)) ?_
  refine WL.want rfl (WL1.callP rfl rfl rfl (.cons (.mk (v := cellPtr _ _) rfl rfl) (.cons (.mk (v := .int _ _) rfl rfl) .nil)) (fun w hw => h1 w hw.1) ?_)
  refine wG rfl rfl (g_notT rfl (.mk rfl rfl)) ?_
  refine wG rfl rfl (g_move rfl (.mk (v := .bool _) rfl rfl)) ?_
  refine WL.wantG rfl rfl rfl rfl (WL1.give rfl (g_move rfl (.mk (v := cellPtr _ _) rfl rfl)) ?_)
  refine WL.wantG rfl rfl rfl rfl (WL1.give rfl (g_move rfl (.mk (v := .int _ _) rfl rfl)) ?_)
  refine WL.wantG rfl rfl rfl rfl (WL1.callP rfl rfl rfl (.cons (.mk (v := cellPtr _ _) rfl rfl) (.cons (.mk (v := .int _ _) rfl rfl) .nil)) (fun w hw => h1y w hw.1) ?_)
  refine WL.wantG rfl rfl rfl rfl (WL1.give rfl (g_notT rfl (.mk rfl rfl)) ?_)
  refine wG rfl rfl (g_pickF rfl (.mk rfl rfl) (.mk (v := .bool _) rfl rfl)) ?_
  refine WL.nil ?_
  (refine hK _ _ ?_; clear hK)
  refine WC.cond_false (.mk rfl rfl) ?_
  refine WC.skip ?_
  (refine hK _ _ ?_; clear hK)
  refine WC.seq fun K hK => ?_
  refine WC.region rfl ?_
  refine wG rfl rfl (g_move rfl (.mk (v := cellPtr _ _) rfl rfl)) ?_
  refine wG rfl rfl (g_nilCheck rfl (.mk rfl rfl) (fun _ _ => rfl)) ?_
  refine wG rfl rfl (g_fieldAddr (off := 3) rfl (.mk rfl rfl) rfl (fun _ _ => rfl)) ?_
  refine wG rfl rfl (g_load rfl (.mk rfl rfl) rfl (rd_wb h3)) ?_
  refine wG rfl rfl (g_move rfl (.mk (v := .int _ _) rfl rfl)) ?_
  refine wG rfl rfl (g_indexAddr (sz := 1) rfl (.mk rfl rfl) (.mk rfl rfl) rfl rfl rfl (by omega) (fun _ _ => sl_some hsl (by omega))) ?_
  refine wG rfl rfl (g_load rfl (.mk rfl rfl) rfl (rd_sl hsl hcell)) ?_
  refine wG rfl rfl (g_move rfl (.mk (v := .int _ _) rfl rfl)) ?_
  refine wG rfl rfl (g_indexAddr (sz := 1) rfl (.mk rfl rfl) (.mk rfl rfl) rfl rfl rfl (by omega) (fun _ _ => sl_some hr (by omega))) ?_
  refine wG rfl rfl (g_load rfl (.mk rfl rfl) rfl (rd_sl hr hv)) ?_
  refine wG rfl rfl (g_assign rfl (.mk (v := .int _ _) rfl rfl)) ?_
  refine WL.nil ?_
  (refine hK _ _ ?_; clear hK)
  refine WC.ret ?_
  exact fun w' hw' => ⟨rfl, hw'.1⟩
end Go.Proofs.Ytdcijljfgcjelaa
