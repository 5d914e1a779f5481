/- Sums, multiples and sums with multiples of blocks, walked. No condition. -/
import Derived.Test.YtkifedekpmgfpaaBlk
import Derived.Test.YtkifedekpmgfpaaGc
import Derived.Test.YtkifedekpmgfpaaEngR
namespace Go.Proofs.Ytkifedekpmgfpaa
open Go.RowKit
attribute [local irreducible] Calls
abbrev z8 : List Value := [.int .u8 0, .int .u8 0, .int .u8 0, .int .u8 0, .int .u8 0, .int .u8 0, .int .u8 0, .int .u8 0]
theorem spl_all {xs vs : List Value} (h : xs.length = vs.length) : spl xs 0 vs = vs := by unfold spl; simp [h]
theorem spl8 (b : Blk) : spl z8 0 b.cells = b.cells := spl_all (by rw [b.len]; rfl)
theorem sub1 {b : Nat} {e : TypeId} {xs ys : List Value} {L M : List Asrt} (h : xs = ys) (hL : L.Sublist M) : (pt b e ys :: L).Sublist (pt b e xs :: M) := by rw [h]; exact .cons_cons _ hL
theorem subK {A : Asrt} {L M : List Asrt} (h : L.Sublist M) : (A :: L).Sublist (A :: M) := .cons_cons _ h
theorem sz8 (b : Blk) : szT Try.prog 37 = some b.cells.length := by rw [b.len]; kernel_rfl
theorem ix {xs : List Value} {i j : Nat} {u : Value} (hh : xs[j]? = some u) (h : i = j) : xs[i]? = some u := h ▸ hh
theorem xor_u8 (a b : G) : IntKind.u8.wrap ((BitVec.ofInt IntKind.u8.bits (a.val : Int) ^^^ BitVec.ofInt IntKind.u8.bits (b.val : Int)).toNat : Int) = (((a + b).val : Nat) : Int) := G.add_val a b
theorem mix_put {k i : Nat} {f g : Nat → G} {v : Value} (h : k < 8) (hi : i = k) (hv : v = bv (f k)) : (mix k f g).cells.set i v = (mix (k + 1) f g).cells := by rw [hi, hv, mix_step f g h]
set_option maxRecDepth 20000 in
set_option maxHeartbeats 1000000 in
theorem fused_e (a b : Blk) (c : G) (w : World) : Calls Try.prog 26 #[kv a, kv b, bv c] w fun e w' => e = .returned (kv (a + c * b)) ∧ Below w.heap.size w w' := by
  refine calls_wcG (args := [kv a, kv b, bv c]) [.cell 6 37] [] Try.func26 rfl Try.ntmps26 rfl rfl (H.refl w) ?_
  (refine WC.seq ?_; intro K hK)
  refine WC.region rfl ?_
  refine WL.want rfl (WL1.box rfl rfl (.mk (v := .agg _) rfl rfl) rfl (fun b3 => ?_))
  refine WL.want rfl (WL1.box rfl rfl (.mk (v := .agg _) rfl rfl) rfl (fun b4 => ?_))
  refine WL.want rfl (WL1.alloc rfl rfl rfl rfl (fun b6 => ?_))
  refine WL.nil ?_
  (refine hK _ _ ?_; clear hK)
  (refine WC.seq ?_; intro K hK)
  (refine WC.seq ?_; intro K hK)
  refine WC.region rfl ?_
  refine WL.want rfl (WL1.give rfl (g_move rfl (.mk (v := .int _ _) rfl rfl)) ?_)
  refine WL.nil ?_
  (refine hK _ _ ?_; clear hK)
  refine WC.block ?_
  refine WC.loop (4194176) (fun k : Nat => [(8, iv k)]) (fun k => [pt b6 37 z8, pt b4 37 b.cells, pt b3 37 (mix k (fun j => a.at j + c * b.at j) (fun j => a.at j)).cells]) (fun k => k ≤ 8) (fun k => 8 - k) 0 ⟨rfl, trivial⟩ (by rw [← mix_start]; exact .refl _) (by omega) ?_
  intro k U hk
  by_cases hlt : k < 8
  have hml := (mix k (fun j => a.at j + c * b.at j) (fun j => a.at j)).len
  · (refine WC.seq ?_; intro K hK)
    refine WC.region rfl ?_
    refine WL.want rfl (WL1.give rfl (g_lt rfl (.mk rfl rfl) (.mk rfl rfl) (decide_eq_true (by omega))) ?_)
    refine WL.nil ?_
    (refine hK _ _ ?_; clear hK)
    (refine WC.seq ?_; intro K hK)
    refine WC.cond_true (.mk rfl rfl) ?_
    refine WC.skip ?_
    (refine hK _ _ ?_; clear hK)
    (refine WC.seq ?_; intro K hK)
    refine WC.block ?_
    (refine WC.seq ?_; intro K hK)
    refine WC.region rfl ?_
    refine WL.want rfl (WL1.give rfl (g_move rfl (.mk (v := .int _ _) rfl rfl)) ?_)
    refine WL.want rfl (WL1.give rfl (g_assign rfl (.mk (v := .int _ _) rfl rfl)) ?_)
    refine WL.nil ?_
    (refine hK _ _ ?_; clear hK)
    refine WC.split 10 rfl (by kernel_rfl) (by decide +kernel) ?_
    refine WQ.want rfl (WQ1.give rfl (g_move rfl (.mk (v := .int _ _) rfl rfl)) ?_)
    refine WQ.want rfl (WQ1.give rfl (g_indexAddrA (sz := 1) rfl (.mk rfl rfl) (.mk rfl rfl) rfl rfl rfl (by omega) (fun _ _ => rfl)) ?_)
    refine WQ.want rfl (WQ1.give rfl (g_load rfl (.mk rfl rfl) rfl (rd_pt (.tail _ (.tail _ (.head _))) (ix (mix_get hlt (by omega)) (by omega)))) ?_)
    refine WQ.want rfl (WQ1.give rfl (g_move rfl (.mk (v := .int _ _) rfl rfl)) ?_)
    refine WQ.want rfl (WQ1.give rfl (g_move rfl (.mk (v := .int _ _) rfl rfl)) ?_)
    refine WQ.want rfl (WQ1.give rfl (g_indexAddrA (sz := 1) rfl (.mk rfl rfl) (.mk rfl rfl) rfl rfl rfl (by omega) (fun _ _ => rfl)) ?_)
    refine WQ.want rfl (WQ1.give rfl (g_load rfl (.mk rfl rfl) rfl (rd_pt (.tail _ (.head _)) (ix (b.get hlt) (by omega)))) ?_)
    refine WQ.want rfl (WQ1.callP rfl rfl rfl (.cons (.mk (v := .int _ _) rfl rfl) (.cons (.mk (v := .int _ _) rfl rfl) .nil)) (fun w hw => Calls.belowS ((mul_any c (b.at k) w).mono fun _ _ ⟨h1, h2⟩ => ⟨h1, h2.symm⟩)) ?_)
    refine WQ.want rfl (WQ1.give rfl (g_xor (k := .u8) rfl (.mk rfl rfl) (.mk rfl rfl) (xor_u8 _ _)) ?_)
    refine WQ.want rfl (WQ1.give rfl (g_indexAddrA (sz := 1) rfl (.mk rfl rfl) (.mk rfl rfl) rfl rfl rfl (by omega) (fun _ _ => rfl)) ?_)
    refine WQ.nil ?_
    refine WY.one 10 (by decide +kernel) rfl rfl ?_
    refine WL1.store1 rfl rfl (.mk rfl rfl) (.mk rfl rfl) rfl rfl (by first | omega | (simp; done) | (simp; omega)) (.tail (.tail (.head))) ?_
    refine WL.nil ?_
    refine WY.done (by decide +kernel) ?_
    (refine hK _ _ ?_; clear hK)
    refine WC.region rfl ?_
    refine WL.want rfl (WL1.give rfl (g_add rfl (.mk rfl rfl) (.mk rfl rfl) (IntWalk.i64_in _ (by omega))) ?_)
    refine WL.want rfl (WL1.give rfl (g_move rfl (.mk (v := .int _ _) rfl rfl)) ?_)
    refine WL.nil ?_
    exact ⟨k + 1, (by repeat (first | with_reducible exact Out.refl _ _ | refine Out.set rfl ?_ | refine Out.put rfl ?_ | refine Out.sets rfl ?_ | refine Out.hav rfl ?_ | exact Out.refl _ _)), ⟨rfl, trivial⟩, subK (subK (sub1 (mix_put hlt (by omega) rfl) (.refl _))), by omega, by omega⟩
  · obtain rfl : k = 8 := by omega
    (refine WC.seq ?_; intro K hK)
    refine WC.region rfl ?_
    refine WL.want rfl (WL1.give rfl (g_lt rfl (.mk rfl rfl) (.mk rfl rfl) (decide_eq_false (by omega))) ?_)
    refine WL.nil ?_
    (refine hK _ _ ?_; clear hK)
    (refine WC.seq ?_; intro K hK)
    refine WC.cond_false (.mk rfl rfl) ?_
    refine WC.exit ?_
    (clear hK; refine hK _ _ ?_; clear hK)
    (refine WC.seq ?_; intro K hK)
    refine WC.region rfl ?_
    refine WL.want rfl (WL1.give rfl (g_loadA rfl (.mk rfl rfl) rfl rfl (rdr_pt (.tail _ (.tail _ (.head _))) (fun j u h => by simpa using h))) ?_)
    refine WL.want rfl (WL1.storeAll rfl rfl (.mk rfl rfl) (.mk rfl rfl) rfl (all1 rfl) (by first | rfl | (simp [Blk.len]; done)) (.head) ?_)
    refine WL.nil ?_
    (refine hK _ _ ?_; clear hK)
    refine WC.ret ?_
    exact ⟨_, .cell rfl rfl rfl rfl (.head _) .nil, fun w' hw' => ⟨congrArg (fun l : List Value => Ending.returned (.agg l.toArray)) (congrArg Blk.cells (mix_all _ _)), hw'.1⟩⟩
set_option maxRecDepth 20000 in
set_option maxHeartbeats 1000000 in
theorem xor_e (a b : Blk) (w : World) : Calls Try.prog 19 #[kv a, kv b] w fun e w' => e = .returned (kv (a + b)) ∧ Below w.heap.size w w' := by
  refine calls_wcG (args := [kv a, kv b]) [.cell 4 37] [] Try.func19 rfl Try.ntmps19 rfl rfl (H.refl w) ?_
  (refine WC.seq ?_; intro K hK)
  refine WC.region rfl ?_
  refine WL.want rfl (WL1.box rfl rfl (.mk (v := .agg _) rfl rfl) rfl (fun b2 => ?_))
  refine WL.want rfl (WL1.box rfl rfl (.mk (v := .agg _) rfl rfl) rfl (fun b3 => ?_))
  refine WL.want rfl (WL1.alloc rfl rfl rfl rfl (fun b4 => ?_))
  refine WL.nil ?_
  (refine hK _ _ ?_; clear hK)
  (refine WC.seq ?_; intro K hK)
  (refine WC.seq ?_; intro K hK)
  refine WC.region rfl ?_
  refine WL.want rfl (WL1.give rfl (g_assign rfl (.mk (v := .int _ _) rfl rfl)) ?_)
  refine WL.nil ?_
  (refine hK _ _ ?_; clear hK)
  refine WC.block ?_
  refine WC.loop (262112) (fun k : Nat => [(5, iv k)]) (fun k => [pt b4 37 z8, pt b3 37 b.cells, pt b2 37 (mix k (fun j => a.at j + b.at j) (fun j => a.at j)).cells]) (fun k => k ≤ 8) (fun k => 8 - k) 0 ⟨rfl, trivial⟩ (by rw [← mix_start]; exact .refl _) (by omega) ?_
  intro k U hk
  by_cases hlt : k < 8
  have hml := (mix k (fun j => a.at j + b.at j) (fun j => a.at j)).len
  · (refine WC.seq ?_; intro K hK)
    (refine WC.seq ?_; intro K hK)
    refine WC.region rfl ?_
    refine WL.want rfl (WL1.give rfl (g_move rfl (.mk (v := .int _ _) rfl rfl)) ?_)
    refine WL.want rfl (WL1.give rfl (g_lt rfl (.mk rfl rfl) (.mk rfl rfl) (decide_eq_true (by omega))) ?_)
    refine WL.nil ?_
    (refine hK _ _ ?_; clear hK)
    refine WC.cond_true (.mk rfl rfl) ?_
    refine WC.skip ?_
    (refine hK _ _ ?_; clear hK)
    (refine WC.seq ?_; intro K hK)
    refine WC.block ?_
    refine WC.split 8 rfl (by kernel_rfl) (by decide +kernel) ?_
    refine WQ.want rfl (WQ1.give rfl (g_move rfl (.mk (v := .int _ _) rfl rfl)) ?_)
    refine WQ.want rfl (WQ1.give rfl (g_indexAddrA (sz := 1) rfl (.mk rfl rfl) (.mk rfl rfl) rfl rfl rfl (by omega) (fun _ _ => rfl)) ?_)
    refine WQ.want rfl (WQ1.give rfl (g_load rfl (.mk rfl rfl) rfl (rd_pt (.tail _ (.tail _ (.head _))) (ix (mix_get hlt (by omega)) (by omega)))) ?_)
    refine WQ.want rfl (WQ1.give rfl (g_move rfl (.mk (v := .int _ _) rfl rfl)) ?_)
    refine WQ.want rfl (WQ1.give rfl (g_indexAddrA (sz := 1) rfl (.mk rfl rfl) (.mk rfl rfl) rfl rfl rfl (by omega) (fun _ _ => rfl)) ?_)
    refine WQ.want rfl (WQ1.give rfl (g_load rfl (.mk rfl rfl) rfl (rd_pt (.tail _ (.head _)) (ix (b.get hlt) (by omega)))) ?_)
    refine WQ.want rfl (WQ1.give rfl (g_xor (k := .u8) rfl (.mk rfl rfl) (.mk rfl rfl) (xor_u8 _ _)) ?_)
    refine WQ.want rfl (WQ1.give rfl (g_indexAddrA (sz := 1) rfl (.mk rfl rfl) (.mk rfl rfl) rfl rfl rfl (by omega) (fun _ _ => rfl)) ?_)
    refine WQ.nil ?_
    refine WY.one 8 (by decide +kernel) rfl rfl ?_
    refine WL1.store1 rfl rfl (.mk rfl rfl) (.mk rfl rfl) rfl rfl (by first | omega | (simp; done) | (simp; omega)) (.tail (.tail (.head))) ?_
    refine WL.nil ?_
    refine WY.done (by decide +kernel) ?_
    (refine hK _ _ ?_; clear hK)
    refine WC.region rfl ?_
    refine WL.want rfl (WL1.give rfl (g_move rfl (.mk (v := .int _ _) rfl rfl)) ?_)
    refine WL.want rfl (WL1.give rfl (g_add rfl (.mk rfl rfl) (.mk rfl rfl) (IntWalk.i64_in _ (by omega))) ?_)
    refine WL.want rfl (WL1.give rfl (g_assign rfl (.mk (v := .int _ _) rfl rfl)) ?_)
    refine WL.nil ?_
    exact ⟨k + 1, (by repeat (first | with_reducible exact Out.refl _ _ | refine Out.set rfl ?_ | refine Out.put rfl ?_ | refine Out.sets rfl ?_ | refine Out.hav rfl ?_ | exact Out.refl _ _)), ⟨rfl, trivial⟩, subK (subK (sub1 (mix_put hlt (by omega) rfl) (.refl _))), by omega, by omega⟩
  · obtain rfl : k = 8 := by omega
    (refine WC.seq ?_; intro K hK)
    (refine WC.seq ?_; intro K hK)
    refine WC.region rfl ?_
    refine WL.want rfl (WL1.give rfl (g_move rfl (.mk (v := .int _ _) rfl rfl)) ?_)
    refine WL.want rfl (WL1.give rfl (g_lt rfl (.mk rfl rfl) (.mk rfl rfl) (decide_eq_false (by omega))) ?_)
    refine WL.nil ?_
    (refine hK _ _ ?_; clear hK)
    refine WC.cond_false (.mk rfl rfl) ?_
    refine WC.exit ?_
    (clear hK; refine hK _ _ ?_; clear hK)
    (refine WC.seq ?_; intro K hK)
    refine WC.region rfl ?_
    refine WL.want rfl (WL1.give rfl (g_loadA rfl (.mk rfl rfl) rfl rfl (rdr_pt (.tail _ (.tail _ (.head _))) (fun j u h => by simpa using h))) ?_)
    refine WL.want rfl (WL1.storeAll rfl rfl (.mk rfl rfl) (.mk rfl rfl) rfl (all1 rfl) (by first | rfl | (simp [Blk.len]; done)) (.head) ?_)
    refine WL.nil ?_
    (refine hK _ _ ?_; clear hK)
    refine WC.ret ?_
    exact ⟨_, .cell rfl rfl rfl rfl (.head _) .nil, fun w' hw' => ⟨congrArg (fun l : List Value => Ending.returned (.agg l.toArray)) (congrArg Blk.cells (mix_all _ _)), hw'.1⟩⟩
set_option maxRecDepth 20000 in
set_option maxHeartbeats 1000000 in
theorem scale_e (c : G) (a : Blk) (w : World) : Calls Try.prog 20 #[bv c, kv a] w fun e w' => e = .returned (kv (c * a)) ∧ Below w.heap.size w w' := by
  refine calls_wcG (args := [bv c, kv a]) [.cell 4 37] [] Try.func20 rfl Try.ntmps20 rfl rfl (H.refl w) ?_
  (refine WC.seq ?_; intro K hK)
  refine WC.region rfl ?_
  refine WL.want rfl (WL1.box rfl rfl (.mk (v := .agg _) rfl rfl) rfl (fun b3 => ?_))
  refine WL.want rfl (WL1.alloc rfl rfl rfl rfl (fun b4 => ?_))
  refine WL.nil ?_
  (refine hK _ _ ?_; clear hK)
  (refine WC.seq ?_; intro K hK)
  (refine WC.seq ?_; intro K hK)
  refine WC.region rfl ?_
  refine WL.want rfl (WL1.give rfl (g_assign rfl (.mk (v := .int _ _) rfl rfl)) ?_)
  refine WL.nil ?_
  (refine hK _ _ ?_; clear hK)
  refine WC.block ?_
  refine WC.loop (131040) (fun k : Nat => [(5, iv k)]) (fun k => [pt b4 37 z8, pt b3 37 (mix k (fun j => c * a.at j) (fun j => a.at j)).cells]) (fun k => k ≤ 8) (fun k => 8 - k) 0 ⟨rfl, trivial⟩ (by rw [← mix_start]; exact .refl _) (by omega) ?_
  intro k U hk
  by_cases hlt : k < 8
  have hml := (mix k (fun j => c * a.at j) (fun j => a.at j)).len
  · (refine WC.seq ?_; intro K hK)
    (refine WC.seq ?_; intro K hK)
    refine WC.region rfl ?_
    refine WL.want rfl (WL1.give rfl (g_move rfl (.mk (v := .int _ _) rfl rfl)) ?_)
    refine WL.want rfl (WL1.give rfl (g_lt rfl (.mk rfl rfl) (.mk rfl rfl) (decide_eq_true (by omega))) ?_)
    refine WL.nil ?_
    (refine hK _ _ ?_; clear hK)
    refine WC.cond_true (.mk rfl rfl) ?_
    refine WC.skip ?_
    (refine hK _ _ ?_; clear hK)
    (refine WC.seq ?_; intro K hK)
    refine WC.block ?_
    refine WC.region rfl ?_
    refine WL.want rfl (WL1.give rfl (g_move rfl (.mk (v := .int _ _) rfl rfl)) ?_)
    refine WL.want rfl (WL1.give rfl (g_move rfl (.mk (v := .int _ _) rfl rfl)) ?_)
    refine WL.want rfl (WL1.give rfl (g_move rfl (.mk (v := .int _ _) rfl rfl)) ?_)
    refine WL.want rfl (WL1.give rfl (g_indexAddrA (sz := 1) rfl (.mk rfl rfl) (.mk rfl rfl) rfl rfl rfl (by omega) (fun _ _ => rfl)) ?_)
    refine WL.want rfl (WL1.give rfl (g_load rfl (.mk rfl rfl) rfl (rd_pt (.tail _ (.head _)) (ix (mix_get hlt (by omega)) (by omega)))) ?_)
    refine WL.want rfl (WL1.callP rfl rfl rfl (.cons (.mk (v := .int _ _) rfl rfl) (.cons (.mk (v := .int _ _) rfl rfl) .nil)) (fun w hw => Calls.belowS ((rmul_any c (a.at k) w).mono fun _ _ ⟨h1, h2⟩ => ⟨h1, h2.symm⟩)) ?_)
    refine WL.want rfl (WL1.give rfl (g_indexAddrA (sz := 1) rfl (.mk rfl rfl) (.mk rfl rfl) rfl rfl rfl (by omega) (fun _ _ => rfl)) ?_)
    refine WL.want rfl (WL1.store1 rfl rfl (.mk rfl rfl) (.mk rfl rfl) rfl rfl (by first | omega | (simp; done) | (simp; omega)) (.tail (.head)) ?_)
    refine WL.nil ?_
    (refine hK _ _ ?_; clear hK)
    refine WC.region rfl ?_
    refine WL.want rfl (WL1.give rfl (g_move rfl (.mk (v := .int _ _) rfl rfl)) ?_)
    refine WL.want rfl (WL1.give rfl (g_add rfl (.mk rfl rfl) (.mk rfl rfl) (IntWalk.i64_in _ (by omega))) ?_)
    refine WL.want rfl (WL1.give rfl (g_assign rfl (.mk (v := .int _ _) rfl rfl)) ?_)
    refine WL.nil ?_
    exact ⟨k + 1, (by repeat (first | with_reducible exact Out.refl _ _ | refine Out.set rfl ?_ | refine Out.put rfl ?_ | refine Out.sets rfl ?_ | refine Out.hav rfl ?_ | exact Out.refl _ _)), ⟨rfl, trivial⟩, subK (sub1 (mix_put hlt (by omega) rfl) (.refl _)), by omega, by omega⟩
  · obtain rfl : k = 8 := by omega
    (refine WC.seq ?_; intro K hK)
    (refine WC.seq ?_; intro K hK)
    refine WC.region rfl ?_
    refine WL.want rfl (WL1.give rfl (g_move rfl (.mk (v := .int _ _) rfl rfl)) ?_)
    refine WL.want rfl (WL1.give rfl (g_lt rfl (.mk rfl rfl) (.mk rfl rfl) (decide_eq_false (by omega))) ?_)
    refine WL.nil ?_
    (refine hK _ _ ?_; clear hK)
    refine WC.cond_false (.mk rfl rfl) ?_
    refine WC.exit ?_
    (clear hK; refine hK _ _ ?_; clear hK)
    (refine WC.seq ?_; intro K hK)
    refine WC.region rfl ?_
    refine WL.want rfl (WL1.give rfl (g_loadA rfl (.mk rfl rfl) rfl rfl (rdr_pt (.tail _ (.head _)) (fun j u h => by simpa using h))) ?_)
    refine WL.want rfl (WL1.storeAll rfl rfl (.mk rfl rfl) (.mk rfl rfl) rfl (all1 rfl) (by first | rfl | (simp [Blk.len]; done)) (.head) ?_)
    refine WL.nil ?_
    (refine hK _ _ ?_; clear hK)
    refine WC.ret ?_
    exact ⟨_, .cell rfl rfl rfl rfl (.head _) .nil, fun w' hw' => ⟨congrArg (fun l : List Value => Ending.returned (.agg l.toArray)) (congrArg Blk.cells (mix_all _ _)), hw'.1⟩⟩
end Go.Proofs.Ytkifedekpmgfpaa
