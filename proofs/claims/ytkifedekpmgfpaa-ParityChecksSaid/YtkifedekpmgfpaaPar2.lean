/- slices.Backward over blocks: the iterator's contract. No condition. -/
import Derived.Test.YtkifedekpmgfpaaPar1
namespace Go.Proofs.Ytkifedekpmgfpaa
open Go.RowKit
attribute [local irreducible] Calls
/-- The iterator's value. -/
abbrev backV (b : Nat) : Value := .func (.func 33) #[] #[cellPtr (some ⟨b, 0, none⟩) 0]
set_option maxRecDepth 20000 in
set_option maxHeartbeats 1000000 in
theorem back_n (A : Option Addr) (n c : Nat) (w : World) : Calls Try.prog 25 #[.slice A n c] w fun e w' => ∃ v M, e = .returned v ∧ H w M w' ∧ ∃ b, v = backV b ∧ M = [pt b 30 [.slice A n c]] := by
  refine calls_wc (args := [.slice A n c]) [2] [] Try.func25 rfl Try.ntmps25 rfl rfl rfl rfl (H.refl w) ?_
  (refine WC.seq ?_; intro K hK)
  refine WC.region rfl ?_
  refine WL.want rfl (WL1.box rfl rfl (.mk (v := .slice _ _ _) rfl rfl) rfl (fun b1 => ?_))
  refine WL.want rfl (WL1.give rfl (g_assign rfl (.mk rfl (by conv => lhs; whnf))) ?_)
  refine WL.nil ?_
  (refine hK _ _ ?_; clear hK)
  (refine WC.seq ?_; intro K hK)
  refine WC.region rfl ?_
  refine WL.want rfl (WL1.give rfl (g_makeFunc rfl (.cons (.mk (v := cellPtr _ _) rfl rfl) .nil)) ?_)
  refine WL.want rfl (WL1.give rfl (g_assign rfl (.mk (v := .func _ _ _) rfl rfl)) ?_)
  refine WL.nil ?_
  (refine hK _ _ ?_; clear hK)
  refine WC.ret ?_
  exact fun w' hw' => ⟨_, _, rfl, hw', b1, rfl, rfl⟩
set_option maxRecDepth 20000 in
set_option maxHeartbeats 1000000 in
theorem back_it {w0 w : World} {A : Option Addr} {c b r : Nat} {ds : List Blk} {Ls : Nat → List Asrt} (hm : c ≤ maxLen) (hn : ds.length ≤ c) (hs : Sl w0 8 (.slice A ds.length c) ds.length (kvs ds)) (hp : ∀ i, pt b 30 [.slice A ds.length c] ∈ Ls i)
    (hy : ∀ m, m < ds.length → ∀ w, H w0 (Ls (m + 1)) w → YieldAt Fence.wide 0 Try.prog r #[iv m, kv (nth ds m)] w fun e w' => e = .returned (.bool true) ∧ H w0 (Ls m) w')
    (hw : H w0 (Ls ds.length) w) : Calls Try.prog 33 #[.func (.yield r) #[] #[], cellPtr (some ⟨b, 0, none⟩) 0] w fun e w' => e = .returned (.tuple #[]) ∧ H w0 (Ls 0) w' := by
  unfold maxLen at hm
  refine calls_wc (args := [.func (.yield r) #[] #[], cellPtr (some ⟨b, 0, none⟩) 0]) [] (Ls ds.length) Try.func33 rfl Try.ntmps33 rfl rfl rfl rfl hw ?_
  (refine WC.seq ?_; intro K hK)
  refine WC.region rfl ?_
  refine WL.want rfl (WL1.give rfl (g_load rfl (.mk rfl rfl) rfl (rd_pt (hp _) rfl)) ?_)
  refine WL.want rfl (WL1.give rfl (g_len rfl (.mk rfl rfl) rfl) ?_)
  refine WL.want rfl (WL1.give rfl (g_sub rfl (.mk rfl rfl) (.mk rfl rfl) (IntWalk.i64_in _ (by omega))) ?_)
  refine WL.want rfl (WL1.give rfl (g_assign rfl (.mk (v := .int _ _) rfl rfl)) ?_)
  refine WL.nil ?_
  (refine hK _ _ ?_; clear hK)
  refine WC.block ?_
  refine WC.loop2 (524168) (fun (m : Nat) (z : Int) => [(3, iv z)]) (fun m _ => Ls m) (fun m z => m ≤ ds.length ∧ z = (m : Int) - 1) (fun m _ => m) ds.length ((ds.length : Int) - 1) ⟨rfl, trivial⟩ (.refl _) ⟨by omega, rfl⟩ ?_
  rintro m z U ⟨hml, hz⟩
  cases m with
  | zero =>
    (refine WC.seq ?_; intro K hK)
    (refine WC.seq ?_; intro K hK)
    refine WC.region rfl ?_
    refine WL.want rfl (WL1.give rfl (g_move rfl (.mk (v := .int _ _) rfl rfl)) ?_)
    refine WL.want rfl (WL1.give rfl (g_ge rfl (.mk rfl rfl) (.mk rfl rfl) (decide_eq_false (by omega))) ?_)
    refine WL.nil ?_
    (refine hK _ _ ?_; clear hK)
    refine WC.cond_false (.mk rfl rfl) ?_
    refine WC.exit ?_
    exact fun w' hw' => ⟨rfl, hw'⟩
  | succ m =>
    obtain rfl : z = (m : Int) := by omega
    (refine WC.seq ?_; intro K hK)
    (refine WC.seq ?_; intro K hK)
    refine WC.region rfl ?_
    refine WL.want rfl (WL1.give rfl (g_move rfl (.mk (v := .int _ _) rfl rfl)) ?_)
    refine WL.want rfl (WL1.give rfl (g_ge rfl (.mk rfl rfl) (.mk rfl rfl) (decide_eq_true (by omega))) ?_)
    refine WL.nil ?_
    (refine hK _ _ ?_; clear hK)
    refine WC.cond_true (.mk rfl rfl) ?_
    refine WC.skip ?_
    (refine hK _ _ ?_; clear hK)
    (refine WC.seq ?_; intro K hK)
    refine WC.block ?_
    (refine WC.seq ?_; intro K hK)
    refine WC.regionY 6 (r := r) rfl rfl rfl rfl ?_
    refine WL.want rfl (WL1.give rfl (g_move rfl (.mk (v := .func _ _ _) rfl rfl)) ?_)
    refine WL.want rfl (WL1.give rfl (g_move rfl (.mk (v := .int _ _) rfl rfl)) ?_)
    refine WL.want rfl (WL1.give rfl (g_load rfl (.mk rfl rfl) rfl (rd_pt (hp _) rfl)) ?_)
    refine WL.want rfl (WL1.give rfl (g_move rfl (.mk (v := .int _ _) rfl rfl)) ?_)
    refine WL.want rfl (WL1.give rfl (g_indexAddr (sz := 8) rfl (.mk rfl rfl) (.mk rfl rfl) rfl rfl rfl (by omega) (fun _ _ => sl_some hs (by omega))) ?_)
    refine WL.want rfl (WL1.give rfl (g_loadA rfl (.mk rfl rfl) rfl (sz8 _) (rdr_sl hs (by omega) (flat_row (by first | assumption | exact fun _ _ => rfl | exact blk8) (by omega)))) ?_)
    refine WL.nil ?_
    refine ⟨[iv m, kv (nth ds m)], .mk rfl rfl, .cons (.mk rfl rfl) (.cons (.mk rfl rfl) .nil), fun w' hw' => YieldAt.mono (hy m (by omega) w' hw') ?_⟩
    rintro e w2 ⟨rfl, hH⟩
    refine ⟨_, _, rfl, hH, ?_⟩
    refine WL.want rfl (WL1.give rfl (g_notT rfl (.mk rfl rfl)) ?_)
    refine WL.nil ?_
    (refine hK _ _ ?_; clear hK)
    refine WC.cond_false (.mk rfl rfl) ?_
    refine WC.skip ?_
    (refine hK _ _ ?_; clear hK)
    refine WC.region rfl ?_
    refine WL.want rfl (WL1.give rfl (g_move rfl (.mk (v := .int _ _) rfl rfl)) ?_)
    refine WL.want rfl (WL1.give rfl (g_sub rfl (.mk rfl rfl) (.mk rfl rfl) (IntWalk.i64_in _ (by omega))) ?_)
    refine WL.want rfl (WL1.give rfl (g_assign rfl (.mk (v := .int _ _) rfl rfl)) ?_)
    refine WL.nil ?_
    exact ⟨m, (m : Int) - 1, (by repeat (first | with_reducible exact Out.refl _ _ | refine Out.set rfl ?_ | refine Out.put rfl ?_ | refine Out.sets rfl ?_ | refine Out.hav rfl ?_ | exact Out.refl _ _)), ⟨rfl, trivial⟩, .refl _, ⟨by omega, rfl⟩, by omega⟩
end Go.Proofs.Ytkifedekpmgfpaa
