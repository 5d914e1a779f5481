/- Texts joined: Pl1, Pl2, Eng16, Pl3, Pl4, Pl5, Pl6. The parts say what each of them proves. No condition. -/
import Derived.Test.YtdcijljfgcjelaaJd5
import Derived.DeepKeys4
import Derived.Maps.Own
import Derived.Maps.OwnSet
import Derived.Maps.Range
import Derived.Carry
namespace Go.Proofs.Ytdcijljfgcjelaa
set_option maxRecDepth 20000
open Go.RowKit
attribute [local irreducible] Calls
set_option maxHeartbeats 1000000 in
theorem index1_e {w : World} {A : Option Addr} {c : Nat} (x : Nat) (hx : x = 1 ∨ x = 2) (hv : Sl w 1 (.slice A 3 c) 3 (ldv (prR3 x))) : Calls Try.prog 61 #[.slice A 3 c, iv 1] w fun e w' => e = .returned (iv x) ∧ Below w.heap.size w w' := by
  have hl : (prR3 x).length = 3 := rfl
  have hp : prR3 1 = [0, 1, 2] := by decide
  have hp2 : prR3 2 = [0, 2, 1] := by decide
  refine calls_wc (args := [.slice A 3 c, iv 1]) [4] [] Try.func61 rfl Try.ntmps61 rfl rfl rfl rfl (H.refl _) ?_
  refine WC.seq fun K hK => ?_
  refine WC.region rfl ?_
  refine wG rfl rfl (g_assign rfl (.mk (v := .int _ _) rfl rfl)) ?_
  refine WL.nil ?_
  (refine hK _ _ ?_; clear hK)
  refine WC.seq fun K hK => ?_
  refine WC.seq fun K hK => ?_
  refine WC.region rfl ?_
  refine wG rfl rfl (g_move rfl (.mk (v := .slice _ _ _) rfl rfl)) ?_
  refine wG rfl rfl (g_len rfl (.mk rfl rfl) rfl) ?_
  refine wG rfl rfl (g_move rfl (.mk (v := .int _ _) rfl rfl)) ?_
  refine WL.nil ?_
  (refine hK _ _ ?_; clear hK)
  refine WC.block ?_
  refine WC.loop (524080) (fun k : Nat => [(8, iv k)]) (fun _ => []) (fun k => k ≤ x) (fun k => 3 - k) 0 ⟨rfl, trivial⟩ (.refl _) (by omega) ?_
  intro k U hk
  rcases hx with rfl | rfl
  · rw [hp] at hv
    obtain rfl | rfl : k = 0 ∨ k = 1 := by omega
    · refine WC.seq fun K hK => ?_
      refine WC.region rfl ?_
      refine wG rfl rfl (g_lt rfl (.mk rfl rfl) (.mk rfl rfl) (decide_eq_true (by omega))) ?_
      refine WL.nil ?_
      (refine hK _ _ ?_; clear hK)
      refine WC.seq fun K hK => ?_
      refine WC.cond_true (.mk rfl rfl) ?_
      refine WC.skip ?_
      (refine hK _ _ ?_; clear hK)
      refine WC.seq fun K hK => ?_
      refine WC.block ?_
      refine WC.seq fun K hK => ?_
      refine WC.region rfl ?_
      refine wG rfl rfl (g_move rfl (.mk (v := .int _ _) rfl rfl)) ?_
      refine wG rfl rfl (g_assign rfl (.mk (v := .int _ _) rfl rfl)) ?_
      refine WL.nil ?_
      (refine hK _ _ ?_; clear hK)
      refine WC.seq fun K hK => ?_
      refine WC.region rfl ?_
      refine wG rfl rfl (g_move rfl (.mk (v := .int _ _) rfl rfl)) ?_
      refine wG rfl rfl (g_move rfl (.mk (v := .slice _ _ _) rfl rfl)) ?_
      refine wG rfl rfl (g_move rfl (.mk (v := .int _ _) rfl rfl)) ?_
      refine wG rfl rfl (g_indexAddr (sz := 1) rfl (.mk rfl rfl) (.mk rfl rfl) rfl rfl (show _ = ((0 : Nat) : Int) from rfl) (by omega) (fun _ _ => sl_some hv (by omega))) ?_
      refine wG rfl rfl (g_load rfl (.mk rfl rfl) rfl (rd_sl hv (rfl : (ldv [0, 1, 2])[_]? = some (iv 0)))) ?_
      refine wG rfl rfl (g_eq rfl (.mk rfl rfl) (.mk rfl rfl) (decide_eq_false (by omega))) ?_
      refine WL.nil ?_
      (refine hK _ _ ?_; clear hK)
      refine WC.cond_false (.mk rfl rfl) ?_
      refine WC.skip ?_
      (refine hK _ _ ?_; clear hK)
      refine WC.region rfl ?_
      refine wG rfl rfl (g_add rfl (.mk rfl rfl) (.mk rfl rfl) (IntWalk.i64_in _ (by omega))) ?_
      refine wG rfl rfl (g_move rfl (.mk (v := .int _ _) rfl rfl)) ?_
      refine WL.nil ?_
      exact ⟨1, (by repeat (first | with_reducible exact Out.refl _ _ | refine Out.set rfl ?_ | refine Out.put rfl ?_ | refine Out.sets rfl ?_ | refine Out.hav rfl ?_ | exact Out.refl _ _)), ⟨rfl, trivial⟩, .refl _, by omega, by omega⟩
    · refine WC.seq fun K hK => ?_
      refine WC.region rfl ?_
      refine wG rfl rfl (g_lt rfl (.mk rfl rfl) (.mk rfl rfl) (decide_eq_true (by omega))) ?_
      refine WL.nil ?_
      (refine hK _ _ ?_; clear hK)
      refine WC.seq fun K hK => ?_
      refine WC.cond_true (.mk rfl rfl) ?_
      refine WC.skip ?_
      (refine hK _ _ ?_; clear hK)
      refine WC.seq fun K hK => ?_
      refine WC.block ?_
      refine WC.seq fun K hK => ?_
      refine WC.region rfl ?_
      refine wG rfl rfl (g_move rfl (.mk (v := .int _ _) rfl rfl)) ?_
      refine wG rfl rfl (g_assign rfl (.mk (v := .int _ _) rfl rfl)) ?_
      refine WL.nil ?_
      (refine hK _ _ ?_; clear hK)
      refine WC.seq fun K hK => ?_
      refine WC.region rfl ?_
      refine wG rfl rfl (g_move rfl (.mk (v := .int _ _) rfl rfl)) ?_
      refine wG rfl rfl (g_move rfl (.mk (v := .slice _ _ _) rfl rfl)) ?_
      refine wG rfl rfl (g_move rfl (.mk (v := .int _ _) rfl rfl)) ?_
      refine wG rfl rfl (g_indexAddr (sz := 1) rfl (.mk rfl rfl) (.mk rfl rfl) rfl rfl (show _ = ((1 : Nat) : Int) from rfl) (by omega) (fun _ _ => sl_some hv (by omega))) ?_
      refine wG rfl rfl (g_load rfl (.mk rfl rfl) rfl (rd_sl hv (rfl : (ldv [0, 1, 2])[_]? = some (iv 1)))) ?_
      refine wG rfl rfl (g_eq rfl (.mk rfl rfl) (.mk rfl rfl) (decide_eq_true (by omega))) ?_
      refine WL.nil ?_
      (refine hK _ _ ?_; clear hK)
      refine WC.cond_true (.mk rfl rfl) ?_
      refine WC.seq fun K hK => ?_
      refine WC.region rfl ?_
      refine wG rfl rfl (g_move rfl (.mk (v := .int _ _) rfl rfl)) ?_
      refine wG rfl rfl (g_assign rfl (.mk (v := .int _ _) rfl rfl)) ?_
      refine WL.nil ?_
      (refine hK _ _ ?_; clear hK)
      refine WC.ret ?_
      exact fun w' hw' => ⟨rfl, hw'.1⟩
  · rw [hp2] at hv
    obtain rfl | rfl | rfl : k = 0 ∨ k = 1 ∨ k = 2 := by omega
    · refine WC.seq fun K hK => ?_
      refine WC.region rfl ?_
      refine wG rfl rfl (g_lt rfl (.mk rfl rfl) (.mk rfl rfl) (decide_eq_true (by omega))) ?_
      refine WL.nil ?_
      (refine hK _ _ ?_; clear hK)
      refine WC.seq fun K hK => ?_
      refine WC.cond_true (.mk rfl rfl) ?_
      refine WC.skip ?_
      (refine hK _ _ ?_; clear hK)
      refine WC.seq fun K hK => ?_
      refine WC.block ?_
      refine WC.seq fun K hK => ?_
      refine WC.region rfl ?_
      refine wG rfl rfl (g_move rfl (.mk (v := .int _ _) rfl rfl)) ?_
      refine wG rfl rfl (g_assign rfl (.mk (v := .int _ _) rfl rfl)) ?_
      refine WL.nil ?_
      (refine hK _ _ ?_; clear hK)
      refine WC.seq fun K hK => ?_
      refine WC.region rfl ?_
      refine wG rfl rfl (g_move rfl (.mk (v := .int _ _) rfl rfl)) ?_
      refine wG rfl rfl (g_move rfl (.mk (v := .slice _ _ _) rfl rfl)) ?_
      refine wG rfl rfl (g_move rfl (.mk (v := .int _ _) rfl rfl)) ?_
      refine wG rfl rfl (g_indexAddr (sz := 1) rfl (.mk rfl rfl) (.mk rfl rfl) rfl rfl (show _ = ((0 : Nat) : Int) from rfl) (by omega) (fun _ _ => sl_some hv (by omega))) ?_
      refine wG rfl rfl (g_load rfl (.mk rfl rfl) rfl (rd_sl hv (rfl : (ldv [0, 2, 1])[_]? = some (iv 0)))) ?_
      refine wG rfl rfl (g_eq rfl (.mk rfl rfl) (.mk rfl rfl) (decide_eq_false (by omega))) ?_
      refine WL.nil ?_
      (refine hK _ _ ?_; clear hK)
      refine WC.cond_false (.mk rfl rfl) ?_
      refine WC.skip ?_
      (refine hK _ _ ?_; clear hK)
      refine WC.region rfl ?_
      refine wG rfl rfl (g_add rfl (.mk rfl rfl) (.mk rfl rfl) (IntWalk.i64_in _ (by omega))) ?_
      refine wG rfl rfl (g_move rfl (.mk (v := .int _ _) rfl rfl)) ?_
      refine WL.nil ?_
      exact ⟨1, (by repeat (first | with_reducible exact Out.refl _ _ | refine Out.set rfl ?_ | refine Out.put rfl ?_ | refine Out.sets rfl ?_ | refine Out.hav rfl ?_ | exact Out.refl _ _)), ⟨rfl, trivial⟩, .refl _, by omega, by omega⟩
    · refine WC.seq fun K hK => ?_
      refine WC.region rfl ?_
      refine wG rfl rfl (g_lt rfl (.mk rfl rfl) (.mk rfl rfl) (decide_eq_true (by omega))) ?_
      refine WL.nil ?_
      (refine hK _ _ ?_; clear hK)
      refine WC.seq fun K hK => ?_
      refine WC.cond_true (.mk rfl rfl) ?_
      refine WC.skip ?_
      (refine hK _ _ ?_; clear hK)
      refine WC.seq fun K hK => ?_
      refine WC.block ?_
      refine WC.seq fun K hK => ?_
      refine WC.region rfl ?_
      refine wG rfl rfl (g_move rfl (.mk (v := .int _ _) rfl rfl)) ?_
      refine wG rfl rfl (g_assign rfl (.mk (v := .int _ _) rfl rfl)) ?_
      refine WL.nil ?_
      (refine hK _ _ ?_; clear hK)
      refine WC.seq fun K hK => ?_
      refine WC.region rfl ?_
      refine wG rfl rfl (g_move rfl (.mk (v := .int _ _) rfl rfl)) ?_
      refine wG rfl rfl (g_move rfl (.mk (v := .slice _ _ _) rfl rfl)) ?_
      refine wG rfl rfl (g_move rfl (.mk (v := .int _ _) rfl rfl)) ?_
      refine wG rfl rfl (g_indexAddr (sz := 1) rfl (.mk rfl rfl) (.mk rfl rfl) rfl rfl (show _ = ((1 : Nat) : Int) from rfl) (by omega) (fun _ _ => sl_some hv (by omega))) ?_
      refine wG rfl rfl (g_load rfl (.mk rfl rfl) rfl (rd_sl hv (rfl : (ldv [0, 2, 1])[_]? = some (iv 2)))) ?_
      refine wG rfl rfl (g_eq rfl (.mk rfl rfl) (.mk rfl rfl) (decide_eq_false (by omega))) ?_
      refine WL.nil ?_
      (refine hK _ _ ?_; clear hK)
      refine WC.cond_false (.mk rfl rfl) ?_
      refine WC.skip ?_
      (refine hK _ _ ?_; clear hK)
      refine WC.region rfl ?_
      refine wG rfl rfl (g_add rfl (.mk rfl rfl) (.mk rfl rfl) (IntWalk.i64_in _ (by omega))) ?_
      refine wG rfl rfl (g_move rfl (.mk (v := .int _ _) rfl rfl)) ?_
      refine WL.nil ?_
      exact ⟨2, (by repeat (first | with_reducible exact Out.refl _ _ | refine Out.set rfl ?_ | refine Out.put rfl ?_ | refine Out.sets rfl ?_ | refine Out.hav rfl ?_ | exact Out.refl _ _)), ⟨rfl, trivial⟩, .refl _, by omega, by omega⟩
    · refine WC.seq fun K hK => ?_
      refine WC.region rfl ?_
      refine wG rfl rfl (g_lt rfl (.mk rfl rfl) (.mk rfl rfl) (decide_eq_true (by omega))) ?_
      refine WL.nil ?_
      (refine hK _ _ ?_; clear hK)
      refine WC.seq fun K hK => ?_
      refine WC.cond_true (.mk rfl rfl) ?_
      refine WC.skip ?_
      (refine hK _ _ ?_; clear hK)
      refine WC.seq fun K hK => ?_
      refine WC.block ?_
      refine WC.seq fun K hK => ?_
      refine WC.region rfl ?_
      refine wG rfl rfl (g_move rfl (.mk (v := .int _ _) rfl rfl)) ?_
      refine wG rfl rfl (g_assign rfl (.mk (v := .int _ _) rfl rfl)) ?_
      refine WL.nil ?_
      (refine hK _ _ ?_; clear hK)
      refine WC.seq fun K hK => ?_
      refine WC.region rfl ?_
      refine wG rfl rfl (g_move rfl (.mk (v := .int _ _) rfl rfl)) ?_
      refine wG rfl rfl (g_move rfl (.mk (v := .slice _ _ _) rfl rfl)) ?_
      refine wG rfl rfl (g_move rfl (.mk (v := .int _ _) rfl rfl)) ?_
      refine wG rfl rfl (g_indexAddr (sz := 1) rfl (.mk rfl rfl) (.mk rfl rfl) rfl rfl (show _ = ((2 : Nat) : Int) from rfl) (by omega) (fun _ _ => sl_some hv (by omega))) ?_
      refine wG rfl rfl (g_load rfl (.mk rfl rfl) rfl (rd_sl hv (rfl : (ldv [0, 2, 1])[_]? = some (iv 1)))) ?_
      refine wG rfl rfl (g_eq rfl (.mk rfl rfl) (.mk rfl rfl) (decide_eq_true (by omega))) ?_
      refine WL.nil ?_
      (refine hK _ _ ?_; clear hK)
      refine WC.cond_true (.mk rfl rfl) ?_
      refine WC.seq fun K hK => ?_
      refine WC.region rfl ?_
      refine wG rfl rfl (g_move rfl (.mk (v := .int _ _) rfl rfl)) ?_
      refine wG rfl rfl (g_assign rfl (.mk (v := .int _ _) rfl rfl)) ?_
      refine WL.nil ?_
      (refine hK _ _ ?_; clear hK)
      refine WC.ret ?_
      exact fun w' hw' => ⟨rfl, hw'.1⟩
set_option maxHeartbeats 1000000 in
theorem finv_e {w : World} {b : Nat} (x : Nat) (hx : x = 1 ∨ x = 2) (hf : FldAt w b) : Calls Try.prog 88 #[bpv b, iv x] w fun e w' => e = .returned (iv x) ∧ Below w.heap.size w w' := by
  have h1 := fun w' (hb : Below w.heap.size w w') => has_e x (by omega) (hf.below hb)
  obtain ⟨S, cS, Pp, cP, sm, pr, h0, h2, h3, hs, hp, e1, e2⟩ := hf
  obtain ⟨hl, A, c, hn, hr⟩ := tab_row hp e2 (by omega : x < 3) rfl
  have hsl := hp.1
  have hl3 : pr.length = 3 := by have := congrArg List.length e2; rw [List.length_map] at this; rw [this]; rfl
  rw [hl3] at hsl
  have hcell : (pr.map IRow.v)[x * 1]? = some (.slice A 3 c) := by rw [irowv_get hl, hn]; rfl
  have hix := fun w' (hb : Below w.heap.size w w') => index1_e x hx (hr.below hb)
  refine calls_wc (args := [bpv b, iv x]) [4] [] Try.func88 rfl Try.ntmps88 rfl rfl rfl rfl (H.refl _) ?_
  refine WC.seq fun K hK => ?_
  refine WC.region rfl ?_
  refine wG rfl rfl (g_assign rfl (.mk (v := .int _ _) rfl rfl)) ?_
  refine WL.nil ?_
  (refine hK _ _ ?_; clear hK)
  refine WC.seq fun K hK => ?_
  refine WC.seq fun K hK => ?_
  refine WC.region rfl ?_
  refine wG rfl rfl (g_move rfl (.mk (v := cellPtr _ _) rfl rfl)) ?_
  refine wG rfl rfl (g_move rfl (.mk (v := .int _ _) rfl rfl)) ?_
  refine WL.want rfl (WL1.callP rfl rfl rfl (.cons (.mk (v := cellPtr _ _) rfl rfl) (.cons (.mk (v := .int _ _) rfl rfl) .nil)) (fun w hw => h1 w hw.1) ?_)
  refine wG rfl rfl (g_notT rfl (.mk rfl rfl)) ?_
  refine WL.nil ?_
  (refine hK _ _ ?_; clear hK)
  refine WC.cond_false (.mk rfl rfl) ?_
  refine WC.skip ?_
  (refine hK _ _ ?_; clear hK)
  refine WC.seq fun K hK => ?_
  refine WC.region rfl ?_
  refine wG rfl rfl (g_move rfl (.mk (v := cellPtr _ _) rfl rfl)) ?_
  refine wG rfl rfl (g_nilCheck rfl (.mk rfl rfl) (fun _ _ => rfl)) ?_
  refine wG rfl rfl (g_fieldAddr (off := 3) rfl (.mk rfl rfl) rfl (fun _ _ => rfl)) ?_
  refine wG rfl rfl (g_load rfl (.mk rfl rfl) rfl (rd_wb h3)) ?_
  refine wG rfl rfl (g_move rfl (.mk (v := .int _ _) rfl rfl)) ?_
  refine wG rfl rfl (g_indexAddr (sz := 1) rfl (.mk rfl rfl) (.mk rfl rfl) rfl rfl rfl (by omega) (fun _ _ => sl_some hsl (by omega))) ?_
  refine wG rfl rfl (g_load rfl (.mk rfl rfl) rfl (rd_sl hsl hcell)) ?_
  refine WL.want rfl (WL1.callP rfl rfl rfl (.cons (.mk (v := .slice _ _ _) rfl rfl) (.cons (.mk (v := .int _ _) rfl rfl) .nil)) (fun w hw => hix w hw.1) ?_)
  refine wG rfl rfl (g_assign rfl (.mk (v := .int _ _) rfl rfl)) ?_
  refine WL.nil ?_
  (refine hK _ _ ?_; clear hK)
  refine WC.ret ?_
  exact fun w' hw' => ⟨rfl, hw'.1⟩
theorem nzclo_e (x : Nat) (w : World) : Calls Try.prog 87 #[iv x] w fun e w' => e = .returned (.bool (decide (x ≠ 0))) ∧ Below w.heap.size w w' := by
  by_cases h : x = 0
  · refine calls_wc (args := [iv x]) [2] [] Try.func87 rfl Try.ntmps87 rfl rfl rfl rfl (H.refl _) ?_
    refine WC.seq fun K hK => ?_
    refine WC.region rfl ?_
    refine wG rfl rfl (g_assign rfl (.mk (v := .bool _) rfl rfl)) ?_
    refine WL.nil ?_
    (refine hK _ _ ?_; clear hK)
    refine WC.seq fun K hK => ?_
    refine WC.region rfl ?_
    refine wG rfl rfl (g_move rfl (.mk (v := .int _ _) rfl rfl)) ?_
    refine wG rfl rfl (g_ne rfl (.mk rfl rfl) (.mk rfl rfl) (decide_eq_false (by omega))) ?_
    refine wG rfl rfl (g_assign rfl (.mk (v := .bool _) rfl rfl)) ?_
    refine WL.nil ?_
    (refine hK _ _ ?_; clear hK)
    refine WC.ret ?_
    exact fun w' hw' => ⟨by rw [decide_eq_false (fun h' => h' h)]; rfl, hw'.1⟩
  · refine calls_wc (args := [iv x]) [2] [] Try.func87 rfl Try.ntmps87 rfl rfl rfl rfl (H.refl _) ?_
    refine WC.seq fun K hK => ?_
    refine WC.region rfl ?_
    refine wG rfl rfl (g_assign rfl (.mk (v := .bool _) rfl rfl)) ?_
    refine WL.nil ?_
    (refine hK _ _ ?_; clear hK)
    refine WC.seq fun K hK => ?_
    refine WC.region rfl ?_
    refine wG rfl rfl (g_move rfl (.mk (v := .int _ _) rfl rfl)) ?_
    refine wG rfl rfl (g_ne rfl (.mk rfl rfl) (.mk rfl rfl) (decide_eq_true (by omega))) ?_
    refine wG rfl rfl (g_assign rfl (.mk (v := .bool _) rfl rfl)) ?_
    refine WL.nil ?_
    (refine hK _ _ ?_; clear hK)
    refine WC.ret ?_
    exact fun w' hw' => ⟨by rw [decide_eq_true h]; rfl, hw'.1⟩
def nzI (l : List Nat) : Nat → Int
  | 0 => -1
  | d + 1 => if nth l (l.length - (d + 1)) ≠ 0 then ((l.length - (d + 1) : Nat) : Int) else nzI l d
set_option maxHeartbeats 1000000 in
theorem nzidx_e {w : World} {A : Option Addr} {c n : Nat} {l : List Nat} (hn : l.length = n) (hn2 : n ≤ 1000) (hv : Sl w 1 (.slice A n c) n (ldv l)) : Calls Try.prog 86 #[.slice A n c, .func (.func 87) #[] #[]] w fun e w' => e = .returned (iv (nzI l n)) ∧ Below w.heap.size w w' := by
  subst hn
  refine calls_wc (args := [.slice A l.length c, .func (.func 87) #[] #[]]) [4] [] Try.func86 rfl Try.ntmps86 rfl rfl rfl rfl (H.refl _) ?_
  refine WC.seq fun K hK => ?_
  refine WC.region rfl ?_
  refine wG rfl rfl (g_assign rfl (.mk (v := .int _ _) rfl rfl)) ?_
  refine WL.nil ?_
  (refine hK _ _ ?_; clear hK)
  refine WC.seq fun K hK => ?_
  refine WC.seq fun K hK => ?_
  refine WC.region rfl ?_
  refine wG rfl rfl (g_move rfl (.mk (v := .slice _ _ _) rfl rfl)) ?_
  refine wG rfl rfl (g_len rfl (.mk rfl rfl) rfl) ?_
  refine wG rfl rfl (g_move rfl (.mk (v := .int _ _) rfl rfl)) ?_
  refine WL.nil ?_
  (refine hK _ _ ?_; clear hK)
  refine WC.block ?_
  refine WC.loop (524080) (fun k : Nat => [(8, iv k)]) (fun _ => []) (fun k => k ≤ l.length ∧ nzI l l.length = nzI l (l.length - k)) (fun k => l.length - k) 0 ⟨rfl, trivial⟩ (.refl _) ⟨by omega, rfl⟩ ?_
  rintro k U ⟨hk, hq⟩
  by_cases hlt : k < l.length
  · have hg := ldv_get (ld := l) hlt
    have hst : nzI l (l.length - k) = if nth l k ≠ 0 then (k : Int) else nzI l (l.length - (k + 1)) := by
      rw [show l.length - k = (l.length - (k + 1)) + 1 from by omega, nzI, show l.length - (l.length - (k + 1) + 1) = k from by omega]
    have hcl : ∀ w, Calls Try.prog 87 ([iv (nth l k : Nat)] ++ []).toArray w fun e w' => e = .returned (.bool (decide (nth l k ≠ 0))) ∧ Below w.heap.size w w' := fun w => nzclo_e _ w
    by_cases h0 : nth l k = 0
    · rw [if_neg (fun h => h h0)] at hst
      rw [decide_eq_false (fun h : nth l k ≠ 0 => h h0)] at hcl
      generalize nth l k = z at *
      refine WC.seq fun K hK => ?_
      refine WC.region rfl ?_
      refine wG rfl rfl (g_lt rfl (.mk rfl rfl) (.mk rfl rfl) (decide_eq_true (by omega))) ?_
      refine WL.nil ?_
      (refine hK _ _ ?_; clear hK)
      refine WC.seq fun K hK => ?_
      refine WC.cond_true (.mk rfl rfl) ?_
      refine WC.skip ?_
      (refine hK _ _ ?_; clear hK)
      refine WC.seq fun K hK => ?_
      refine WC.block ?_
      refine WC.seq fun K hK => ?_
      refine WC.region rfl ?_
      refine wG rfl rfl (g_move rfl (.mk (v := .int _ _) rfl rfl)) ?_
      refine wG rfl rfl (g_assign rfl (.mk (v := .int _ _) rfl rfl)) ?_
      refine WL.nil ?_
      (refine hK _ _ ?_; clear hK)
      refine WC.seq fun K hK => ?_
      refine WC.region rfl ?_
      refine wG rfl rfl (g_move rfl (.mk (v := .func _ _ _) rfl rfl)) ?_
      refine wG rfl rfl (g_move rfl (.mk (v := .slice _ _ _) rfl rfl)) ?_
      refine wG rfl rfl (g_move rfl (.mk (v := .int _ _) rfl rfl)) ?_
      refine wG rfl rfl (g_indexAddr (sz := 1) rfl (.mk rfl rfl) (.mk rfl rfl) rfl rfl rfl (by omega) (fun _ _ => sl_some hv (by omega))) ?_
      refine wG rfl rfl (g_load rfl (.mk rfl rfl) rfl (rd_sl hv hg)) ?_
      refine WL.want rfl (WL1.callVP rfl rfl (.mk rfl rfl) (by first | assumption | rfl) (.cons (.mk (v := .int _ _) rfl rfl) .nil) (fun w hw => hcl w) ?_)
      refine WL.nil ?_
      (refine hK _ _ ?_; clear hK)
      refine WC.cond_false (.mk rfl rfl) ?_
      refine WC.skip ?_
      (refine hK _ _ ?_; clear hK)
      refine WC.region rfl ?_
      refine wG rfl rfl (g_add rfl (.mk rfl rfl) (.mk rfl rfl) (IntWalk.i64_in _ (by omega))) ?_
      refine wG rfl rfl (g_move rfl (.mk (v := .int _ _) rfl rfl)) ?_
      refine WL.nil ?_
      exact ⟨k + 1, (by repeat (first | with_reducible exact Out.refl _ _ | refine Out.set rfl ?_ | refine Out.put rfl ?_ | refine Out.sets rfl ?_ | refine Out.hav rfl ?_ | exact Out.refl _ _)), ⟨rfl, trivial⟩, .refl _, ⟨by omega, hq.trans hst⟩, by omega⟩
    · rw [if_pos h0] at hst
      rw [decide_eq_true h0] at hcl
      rw [hq, hst]
      generalize nth l k = z at *
      refine WC.seq fun K hK => ?_
      refine WC.region rfl ?_
      refine wG rfl rfl (g_lt rfl (.mk rfl rfl) (.mk rfl rfl) (decide_eq_true (by omega))) ?_
      refine WL.nil ?_
      (refine hK _ _ ?_; clear hK)
      refine WC.seq fun K hK => ?_
      refine WC.cond_true (.mk rfl rfl) ?_
      refine WC.skip ?_
      (refine hK _ _ ?_; clear hK)
      refine WC.seq fun K hK => ?_
      refine WC.block ?_
      refine WC.seq fun K hK => ?_
      refine WC.region rfl ?_
      refine wG rfl rfl (g_move rfl (.mk (v := .int _ _) rfl rfl)) ?_
      refine wG rfl rfl (g_assign rfl (.mk (v := .int _ _) rfl rfl)) ?_
      refine WL.nil ?_
      (refine hK _ _ ?_; clear hK)
      refine WC.seq fun K hK => ?_
      refine WC.region rfl ?_
      refine wG rfl rfl (g_move rfl (.mk (v := .func _ _ _) rfl rfl)) ?_
      refine wG rfl rfl (g_move rfl (.mk (v := .slice _ _ _) rfl rfl)) ?_
      refine wG rfl rfl (g_move rfl (.mk (v := .int _ _) rfl rfl)) ?_
      refine wG rfl rfl (g_indexAddr (sz := 1) rfl (.mk rfl rfl) (.mk rfl rfl) rfl rfl rfl (by omega) (fun _ _ => sl_some hv (by omega))) ?_
      refine wG rfl rfl (g_load rfl (.mk rfl rfl) rfl (rd_sl hv hg)) ?_
      refine WL.want rfl (WL1.callVP rfl rfl (.mk rfl rfl) (by first | assumption | rfl) (.cons (.mk (v := .int _ _) rfl rfl) .nil) (fun w hw => hcl w) ?_)
      refine WL.nil ?_
      (refine hK _ _ ?_; clear hK)
      refine WC.cond_true (.mk rfl rfl) ?_
      refine WC.seq fun K hK => ?_
      refine WC.region rfl ?_
      refine wG rfl rfl (g_move rfl (.mk (v := .int _ _) rfl rfl)) ?_
      refine wG rfl rfl (g_assign rfl (.mk (v := .int _ _) rfl rfl)) ?_
      refine WL.nil ?_
      (refine hK _ _ ?_; clear hK)
      refine WC.ret ?_
      exact fun w' hw' => ⟨rfl, hw'.1⟩
  · obtain rfl : k = l.length := by omega
    rw [Nat.sub_self] at hq
    refine WC.seq fun K hK => ?_
    refine WC.region rfl ?_
    refine wG rfl rfl (g_lt rfl (.mk rfl rfl) (.mk rfl rfl) (decide_eq_false (by omega))) ?_
    refine WL.nil ?_
    (refine hK _ _ ?_; clear hK)
    refine WC.seq fun K hK => ?_
    refine WC.cond_false (.mk rfl rfl) ?_
    refine WC.exit ?_
    (clear hK; refine hK _ _ ?_; clear hK)
    refine WC.seq fun K hK => ?_
    refine WC.region rfl ?_
    refine wG rfl rfl (g_assign rfl (.mk (v := .int _ _) rfl rfl)) ?_
    refine WL.nil ?_
    (refine hK _ _ ?_; clear hK)
    refine WC.ret ?_
    exact fun w' hw' => ⟨by rw [hq]; rfl, hw'.1⟩
def byF (x y z : Nat) : Nat := if x ≠ 0 then x else if y ≠ 0 then y else z
def nrmL (x y z : Nat) : List Nat := if byF x y z = 0 then [x, y, z] else [x * byF x y z % 3, y * byF x y z % 3, z * byF x y z % 3]
abbrev COT : TypeId := 114
def mulP (b : Nat) (l : List Nat) (i : Nat) : List Nat := (List.range 3).map fun q => if q < i then nth l q * b % 3 else nth l q
theorem mulP_set {b i : Nat} {l : List Nat} (h : i < 3) : (mulP b l i).set i (nth l i * b % 3) = mulP b l (i + 1) :=
  list_ext_nth (by rw [List.length_set]; simp [mulP]) fun q hq => by
    have hq3 : q < 3 := by rw [List.length_set] at hq; simpa [mulP] using hq
    have e1 : nth (mulP b l i) q = if q < i then nth l q * b % 3 else nth l q := nth_range _ hq3
    have e2 : nth (mulP b l (i + 1)) q = if q < i + 1 then nth l q * b % 3 else nth l q := nth_range _ hq3
    rw [nth_set_eq (by simpa [mulP] using h), e1, e2]
    by_cases e : q = i
    · subst e; rw [if_pos rfl, if_pos (by omega)]
    · rw [if_neg e]
      by_cases e3 : q < i
      · rw [if_pos e3, if_pos (by omega)]
      · rw [if_neg e3, if_neg (by omega)]
theorem mulP_len (b : Nat) (l : List Nat) (i : Nat) : (mulP b l i).length = 3 := by simp [mulP]
theorem sl3 {w0 w : World} {L : List Asrt} {b : Nat} {e : TypeId} {l : List Nat} (hl : l.length = 3) (hw : H w0 L w) (hm : pt b e (ldv l) ∈ L) : Sl w 1 (.slice (subA ((some (⟨b, 0, none⟩ : Addr)).map (·.add 0)) 3 0 1) 3 3) 3 (ldv l) :=
  Sl.of_ptE (k := 0) (m := 3) (l := 0) (h := 3) hw hm (by omega) (by omega) (by unfold maxLen; omega) (by rw [ldv_len, hl]; omega) rfl (by
    show ((ldv l).drop (0 + 0 * 1)).take ((3 - 0) * 1) = ldv l
    rw [show 0 + 0 * 1 = 0 from rfl, List.drop_zero, List.take_of_length_le (by rw [ldv_len, hl]; omega)])
set_option maxHeartbeats 2000000 in
theorem normal_e {w : World} {bs bf : Nat} (x y z : Nat) (hx : x < 3) (hy : y < 3) (hz : z < 3) (hs : w.cell? ⟨bs, 0, none⟩ = some (bpv bf)) (hf : FldAt w bf) :
    Calls Try.prog 73 #[bpv bs, .agg (ldv [x, y, z]).toArray] w fun e w' => e = .returned (.agg (ldv (nrmL x y z)).toArray) ∧ Below w.heap.size w w' := by
  have hnz : ∀ w' (A : Option Addr) c, Sl w' 1 (.slice A 3 c) 3 (ldv [x, y, z]) → _ := fun w' A c h => nzidx_e (n := 3) rfl (by omega) h
  have hi : nzI [x, y, z] 3 = if x ≠ 0 then 0 else if y ≠ 0 then 1 else if z ≠ 0 then 2 else -1 := rfl
  by_cases hb : byF x y z = 0
  · have hx0 : x = 0 := by unfold byF at hb; split at hb <;> simp_all
    have hy0 : y = 0 := by subst hx0; unfold byF at hb; simp at hb; split at hb <;> simp_all
    have hz0 : z = 0 := by subst hx0; subst hy0; unfold byF at hb; simpa using hb
    subst hx0; subst hy0; subst hz0
    rw [hi] at hnz
    refine calls_wcG (args := [bpv bs, .agg (ldv [0, 0, 0]).toArray]) [.cell 4 114] [] Try.func73 rfl Try.ntmps73 rfl rfl (H.refl _) ?_
    refine WC.seq fun K hK => ?_
    refine WC.region rfl ?_
    refine WL.want rfl (WL1.box rfl rfl (.mk (v := .agg _) rfl rfl) rfl (fun b3 => ?_))
    refine WL.want rfl (WL1.alloc rfl rfl rfl rfl (fun b4 => ?_))
    refine WL.nil ?_
    (refine hK _ _ ?_; clear hK)
    refine WC.seq fun K hK => ?_
    refine WC.region rfl ?_
    refine wG rfl rfl (g_sliceA (sz := 1) (kl := .i64) (p := 0) (kh := .i64) (q := 0) rfl (.mk rfl rfl) rfl rfl rfl rfl (by omega) (by omega) (fun _ _ => rfl)) ?_
    refine WL.want rfl (WL1.callP rfl rfl rfl (.cons (.mk (v := .slice _ _ _) rfl rfl) (.cons (.mk (v := .func _ _ _) rfl rfl) .nil)) (fun w hw => hnz w _ _ (sl3 rfl hw (by first | ((repeat (first | exact .head _ | apply List.Mem.tail)); done) | fail))) ?_)
    refine wG rfl rfl (g_assign rfl (.mk (v := .int _ _) rfl rfl)) ?_
    refine WL.nil ?_
    (refine hK _ _ ?_; clear hK)
    refine WC.seq fun K hK => ?_
    refine WC.seq fun K hK => ?_
    refine WC.region rfl ?_
    refine wG rfl rfl (g_move rfl (.mk (v := .int _ _) rfl rfl)) ?_
    refine wG rfl rfl (g_lt rfl (.mk rfl rfl) (.mk rfl rfl) (decide_eq_true (by omega))) ?_
    refine WL.nil ?_
    (refine hK _ _ ?_; clear hK)
    refine WC.cond_true (.mk rfl rfl) ?_
    refine WC.seq fun K hK => ?_
    refine WC.region rfl ?_
    refine wG rfl rfl (g_loadA rfl (.mk rfl rfl) rfl rfl (rdr_pt (cs := ldv [0, 0, 0]) (by first | ((repeat (first | exact .head _ | apply List.Mem.tail)); done) | fail) (fun j u h => by rw [Nat.zero_add, Nat.zero_add]; exact h))) ?_
    refine WL.want rfl (WL1.storeAll rfl rfl (.mk rfl rfl) (.mk rfl rfl) rfl (all1 rfl) (by first | rfl | (simp [Blk.len]; done)) (.head) ?_)
    refine WL.nil ?_
    (refine hK _ _ ?_; clear hK)
    refine WC.ret ?_
    exact ⟨_, .cell rfl rfl rfl rfl (by first | ((repeat (first | exact .head _ | apply List.Mem.tail)); done) | fail) .nil, fun w' hw' => ⟨rfl, hw'.1⟩⟩
  · obtain ⟨i, hi3, hni, hnb⟩ : ∃ i : Nat, i < 3 ∧ nzI [x, y, z] 3 = (i : Int) ∧ nth [x, y, z] i = byF x y z := by
      rw [hi]
      by_cases h1 : x = 0
      · subst h1
        by_cases h2 : y = 0
        · subst h2
          have hz0 : z ≠ 0 := fun h => hb (by subst h; rfl)
          exact ⟨2, by omega, (if_pos hz0 : (if z ≠ 0 then (2 : Int) else -1) = 2), rfl⟩
        · exact ⟨1, by omega, (if_pos h2 : (if y ≠ 0 then (1 : Int) else if z ≠ 0 then (2 : Int) else -1) = 1), (if_pos h2 : (if y ≠ 0 then y else z) = y).symm⟩
      · exact ⟨0, by omega, if_pos h1, (if_pos h1 : (if x ≠ 0 then x else if y ≠ 0 then y else z) = x).symm⟩
    have hnl : nrmL x y z = mulP (byF x y z) [x, y, z] 3 := by unfold nrmL; rw [if_neg hb]; rfl
    rw [hni] at hnz
    have hl3 : ([x, y, z] : List Nat).length = 3 := rfl
    have hle : ∀ q, q < 3 → nth [x, y, z] q < 3 := fun q hq => by
      obtain rfl | rfl | rfl : q = 0 ∨ q = 1 ∨ q = 2 := by omega
      · exact hx
      · exact hy
      · exact hz
    have hb3 : byF x y z < 3 := by rw [← hnb]; exact hle i hi3
    have hm0 : mulP (byF x y z) [x, y, z] 0 = [x, y, z] := rfl
    rw [hnl]
    clear hi hnl
    have hgi := ldv_get (ld := [x, y, z]) (k := i) hi3
    rw [hnb] at hgi
    have hgi2 : (ldv [x, y, z])[0 + (0 + i * 1)]? = some (iv (byF x y z : Nat)) := by rw [show 0 + (0 + i * 1) = i * 1 from by omega]; exact hgi
    generalize byF x y z = bb at *
    generalize [x, y, z] = l at *
    have hin := fun w' (hb' : Below w.heap.size w w') => finv_e bb (by omega) (hf.below hb')
    have hml := fun k (hk : k < 3) w' (hb' : Below w.heap.size w w') => fmul_e (nth l k) bb (hle k hk) hb3 (hf.below hb')
    have hdl : (ldv l).length = 3 := by rw [ldv_len, hl3]
    refine calls_wcG (args := [bpv bs, .agg (ldv l).toArray]) [.cell 4 114] [] Try.func73 rfl Try.ntmps73 rfl rfl (H.refl _) ?_
    refine WC.seq fun K hK => ?_
    refine WC.region rfl ?_
    refine WL.want rfl (WL1.box rfl rfl (.mk (v := .agg _) rfl rfl) rfl (fun b3 => ?_))
    refine WL.want rfl (WL1.alloc rfl rfl rfl rfl (fun b4 => ?_))
    refine WL.nil ?_
    (refine hK _ _ ?_; clear hK)
    refine WC.seq fun K hK => ?_
    refine WC.region rfl ?_
    refine wG rfl rfl (g_sliceA (sz := 1) (kl := .i64) (p := 0) (kh := .i64) (q := 0) rfl (.mk rfl rfl) rfl rfl rfl rfl (by omega) (by omega) (fun _ _ => rfl)) ?_
    refine WL.want rfl (WL1.callP rfl rfl rfl (.cons (.mk (v := .slice _ _ _) rfl rfl) (.cons (.mk (v := .func _ _ _) rfl rfl) .nil)) (fun w hw => hnz w _ _ (sl3 hl3 hw (by first | ((repeat (first | exact .head _ | apply List.Mem.tail)); done) | fail))) ?_)
    refine wG rfl rfl (g_assign rfl (.mk (v := .int _ _) rfl rfl)) ?_
    refine WL.nil ?_
    (refine hK _ _ ?_; clear hK)
    refine WC.seq fun K hK => ?_
    refine WC.seq fun K hK => ?_
    refine WC.region rfl ?_
    refine wG rfl rfl (g_move rfl (.mk (v := .int _ _) rfl rfl)) ?_
    refine wG rfl rfl (g_lt rfl (.mk rfl rfl) (.mk rfl rfl) (decide_eq_false (by omega))) ?_
    refine WL.nil ?_
    (refine hK _ _ ?_; clear hK)
    refine WC.cond_false (.mk rfl rfl) ?_
    refine WC.skip ?_
    (refine hK _ _ ?_; clear hK)
    refine WC.seq fun K hK => ?_
    refine WC.quiet rfl (by kernel_rfl) (by decide +kernel) ?_
    refine WQ.want rfl (WQ1.give rfl (g_move rfl (.mk (v := cellPtr _ _) rfl rfl)) ?_)
    refine WQ.want rfl (WQ1.give rfl (g_nilCheck rfl (.mk rfl rfl) (fun _ _ => rfl)) ?_)
    refine WQ.want rfl (WQ1.give rfl (g_fieldAddr (off := 0) rfl (.mk rfl rfl) rfl (fun _ _ => rfl)) ?_)
    refine WQ.want rfl (WQ1.give rfl (g_load rfl (.mk rfl rfl) rfl (rd_wb hs)) ?_)
    refine WQ.want rfl (WQ1.give rfl (g_move rfl (.mk (v := .int _ _) rfl rfl)) ?_)
    refine WQ.want rfl (WQ1.give rfl (g_indexAddrA (sz := 1) rfl (.mk rfl rfl) (.mk rfl rfl) rfl rfl rfl (by omega) (fun _ _ => rfl)) ?_)
    refine WQ.want rfl (WQ1.give rfl (g_load rfl (.mk rfl rfl) rfl (rd_pt (by first | ((repeat (first | exact .head _ | apply List.Mem.tail)); done) | fail) hgi2)) ?_)
    refine WQ.want rfl (WQ1.callP rfl rfl rfl (.cons (.mk (v := cellPtr _ _) rfl rfl) (.cons (.mk (v := .int _ _) rfl rfl) .nil)) (fun w hw => hin w hw.1) ?_)
    refine WQ.want rfl (WQ1.give rfl (g_assign rfl (.mk (v := .int _ _) rfl rfl)) ?_)
    refine WQ.nil ?_
    (refine hK _ _ ?_; clear hK)
    refine WC.seq fun K hK => ?_
    refine WC.seq fun K hK => ?_
    refine WC.region rfl ?_
    refine wG rfl rfl (g_move rfl (.mk (v := .int _ _) rfl rfl)) ?_
    refine WL.nil ?_
    (refine hK _ _ ?_; clear hK)
    refine WC.block ?_
    refine WC.loop (68717379712) (fun k : Nat => [(21, iv k)]) (fun k => [pt b4 COT (ldv [0, 0, 0]), pt b3 COT (ldv (mulP bb l k))]) (fun k => k ≤ 3) (fun k => 3 - k) 0 ⟨rfl, trivial⟩ (by rw [hm0]; exact (by repeat (first | exact List.nil_sublist _ | exact List.Sublist.refl _ | apply List.Sublist.cons_cons | apply List.Sublist.cons))) (by omega) ?_
    intro k U hk
    by_cases hlt : k < 3
    · have hg := ldv_get (ld := mulP bb l k) (k := k) (by rw [mulP_len]; exact hlt)
      have hg2 : (ldv (mulP bb l k))[0 + (0 + k * 1)]? = some (iv (nth l k : Nat)) := by rw [show 0 + (0 + k * 1) = k * 1 from by omega, hg, show nth (mulP bb l k) k = nth l k from by rw [show nth (mulP bb l k) k = if k < k then nth l k * bb % 3 else nth l k from nth_range _ hlt, if_neg (Nat.lt_irrefl k)]]
      have hst : (ldv (mulP bb l k)).set (0 + (0 + k * 1)) (iv (nth l k * bb % 3 : Nat)) = ldv (mulP bb l (k + 1)) := by rw [show 0 + (0 + k * 1) = k from by omega, ldv_set, mulP_set hlt]
      refine WC.seq fun K hK => ?_
      refine WC.region rfl ?_
      refine wG rfl rfl (g_lt rfl (.mk rfl rfl) (.mk rfl rfl) (decide_eq_true (by omega))) ?_
      refine WL.nil ?_
      (refine hK _ _ ?_; clear hK)
      refine WC.seq fun K hK => ?_
      refine WC.cond_true (.mk rfl rfl) ?_
      refine WC.skip ?_
      (refine hK _ _ ?_; clear hK)
      refine WC.seq fun K hK => ?_
      refine WC.block ?_
      refine WC.seq fun K hK => ?_
      refine WC.region rfl ?_
      refine wG rfl rfl (g_move rfl (.mk (v := .int _ _) rfl rfl)) ?_
      refine wG rfl rfl (g_assign rfl (.mk (v := .int _ _) rfl rfl)) ?_
      refine WL.nil ?_
      (refine hK _ _ ?_; clear hK)
      refine WC.split 11 rfl (by kernel_rfl) (by decide +kernel) ?_
      refine WQ.want rfl (WQ1.give rfl (g_move rfl (.mk (v := .int _ _) rfl rfl)) ?_)
      refine WQ.want rfl (WQ1.give rfl (g_move rfl (.mk (v := cellPtr _ _) rfl rfl)) ?_)
      refine WQ.want rfl (WQ1.give rfl (g_nilCheck rfl (.mk rfl rfl) (fun _ _ => rfl)) ?_)
      refine WQ.want rfl (WQ1.give rfl (g_fieldAddr (off := 0) rfl (.mk rfl rfl) rfl (fun _ _ => rfl)) ?_)
      refine WQ.want rfl (WQ1.give rfl (g_load rfl (.mk rfl rfl) rfl (rd_wb hs)) ?_)
      refine WQ.want rfl (WQ1.give rfl (g_move rfl (.mk (v := .int _ _) rfl rfl)) ?_)
      refine WQ.want rfl (WQ1.give rfl (g_indexAddrA (sz := 1) rfl (.mk rfl rfl) (.mk rfl rfl) rfl rfl rfl (by omega) (fun _ _ => rfl)) ?_)
      refine WQ.want rfl (WQ1.give rfl (g_load rfl (.mk rfl rfl) rfl (rd_pt (by first | ((repeat (first | exact .head _ | apply List.Mem.tail)); done) | fail) hg2)) ?_)
      refine WQ.want rfl (WQ1.give rfl (g_move rfl (.mk (v := .int _ _) rfl rfl)) ?_)
      refine WQ.want rfl (WQ1.callP rfl rfl rfl (.cons (.mk (v := cellPtr _ _) rfl rfl) (.cons (.mk (v := .int _ _) rfl rfl) (.cons (.mk (v := .int _ _) rfl rfl) .nil))) (fun w hw => hml k hlt w hw.1) ?_)
      refine WQ.want rfl (WQ1.give rfl (g_indexAddrA (sz := 1) rfl (.mk rfl rfl) (.mk rfl rfl) rfl rfl rfl (by omega) (fun _ _ => rfl)) ?_)
      refine WQ.nil ?_
      refine WY.one 11 (by decide +kernel) rfl rfl ?_
      refine WL1.store1 rfl rfl (.mk rfl rfl) (.mk (v := .int _ _) rfl rfl) rfl rfl (by rw [ldv_len, mulP_len]; omega) (.tail .head) ?_
      refine WL.nil ?_
      refine WY.done (by decide +kernel) ?_
      (refine hK _ _ ?_; clear hK)
      refine WC.region rfl ?_
      refine wG rfl rfl (g_add rfl (.mk rfl rfl) (.mk rfl rfl) (IntWalk.i64_in _ (by omega))) ?_
      refine wG rfl rfl (g_move rfl (.mk (v := .int _ _) rfl rfl)) ?_
      refine WL.nil ?_
      exact ⟨k + 1, (by repeat (first | with_reducible exact Out.refl _ _ | refine Out.set rfl ?_ | refine Out.put rfl ?_ | refine Out.sets rfl ?_ | refine Out.hav rfl ?_ | exact Out.refl _ _)), ⟨rfl, trivial⟩, (by rw [← hst]; exact (by repeat (first | exact List.nil_sublist _ | exact List.Sublist.refl _ | apply List.Sublist.cons_cons | apply List.Sublist.cons))), by omega, by omega⟩
    · obtain rfl : k = 3 := by omega
      refine WC.seq fun K hK => ?_
      refine WC.region rfl ?_
      refine wG rfl rfl (g_lt rfl (.mk rfl rfl) (.mk rfl rfl) (decide_eq_false (by omega))) ?_
      refine WL.nil ?_
      (refine hK _ _ ?_; clear hK)
      refine WC.seq fun K hK => ?_
      refine WC.cond_false (.mk rfl rfl) ?_
      refine WC.exit ?_
      (clear hK; refine hK _ _ ?_; clear hK)
      refine WC.seq fun K hK => ?_
      refine WC.region rfl ?_
      refine wG rfl rfl (g_loadA rfl (.mk rfl rfl) rfl rfl (rdr_pt (cs := ldv (mulP bb l 3)) (by first | ((repeat (first | exact .head _ | apply List.Mem.tail)); done) | fail) (fun j u h => by rw [Nat.zero_add, Nat.zero_add]; exact h))) ?_
      refine WL.want rfl (WL1.storeAll rfl rfl (.mk rfl rfl) (.mk rfl rfl) rfl (all1 rfl) (by first | rfl | (simp [Blk.len]; done)) (.head) ?_)
      refine WL.nil ?_
      (refine hK _ _ ?_; clear hK)
      refine WC.ret ?_
      exact ⟨_, .cell rfl rfl rfl rfl (by first | ((repeat (first | exact .head _ | apply List.Mem.tail)); done) | fail) .nil, fun w' hw' => ⟨rfl, hw'.1⟩⟩
end Go.Proofs.Ytdcijljfgcjelaa
namespace Go.Proofs.Ytdcijljfgcjelaa
set_option maxRecDepth 20000
open Go.RowKit
attribute [local irreducible] Calls
def dS (a b : List Nat) : Nat → Nat
  | 0 => 0
  | k + 1 => (dS a b k % 3 + nth a k * nth b k % 3 % 3) % 3
theorem dS_lt (a b : List Nat) : ∀ k, dS a b k < 3
  | 0 => by show 0 < 3; omega
  | k + 1 => by show (_ % 3) < 3; omega
set_option maxHeartbeats 1000000 in
theorem dot_e {w : World} {bs bf : Nat} (a b : List Nat) (ha : a.length = 3) (hb : b.length = 3) (ha3 : ∀ q, q < 3 → nth a q < 3) (hb3 : ∀ q, q < 3 → nth b q < 3) (hs : w.cell? ⟨bs, 0, none⟩ = some (bpv bf)) (hf : FldAt w bf) :
    Calls Try.prog 63 #[bpv bs, .agg (ldv a).toArray, .agg (ldv b).toArray] w fun e w' => e = .returned (iv (dS a b 3 : Nat)) ∧ Below w.heap.size w w' := by
  have hml := fun k (hk : k < 3) w' (hb' : Below w.heap.size w w') => fmul_e (nth a k) (nth b k) (ha3 k hk) (hb3 k hk) (hf.below hb')
  have had := fun k w' (hb' : Below w.heap.size w w') => fadd_e (dS a b k) (nth a k * nth b k % 3) (dS_lt a b k) (Nat.mod_lt _ (by omega)) (hf.below hb')
  have hda : (ldv a).length = 3 := by rw [ldv_len, ha]
  have hdb : (ldv b).length = 3 := by rw [ldv_len, hb]
  refine calls_wc (args := [bpv bs, .agg (ldv a).toArray, .agg (ldv b).toArray]) [6] [] Try.func63 rfl Try.ntmps63 rfl rfl rfl rfl (H.refl _) ?_
  refine WC.seq fun K hK => ?_
  refine WC.region rfl ?_
  refine WL.want rfl (WL1.box rfl rfl (.mk (v := .agg _) rfl rfl) rfl (fun b4 => ?_))
  refine WL.want rfl (WL1.box rfl rfl (.mk (v := .agg _) rfl rfl) rfl (fun b5 => ?_))
  refine wG rfl rfl (g_assign rfl (.mk (v := .int _ _) rfl rfl)) ?_
  refine WL.nil ?_
  (refine hK _ _ ?_; clear hK)
  refine WC.seq fun K hK => ?_
  refine WC.region rfl ?_
  refine wG rfl rfl (g_assign rfl (.mk (v := .int _ _) rfl rfl)) ?_
  refine WL.nil ?_
  (refine hK _ _ ?_; clear hK)
  refine WC.seq fun K hK => ?_
  refine WC.seq fun K hK => ?_
  refine WC.region rfl ?_
  refine wG rfl rfl (g_move rfl (.mk (v := .int _ _) rfl rfl)) ?_
  refine WL.nil ?_
  (refine hK _ _ ?_; clear hK)
  refine WC.block ?_
  refine WC.loop (1073741696) (fun k : Nat => [(9, iv k), (7, iv (dS a b k : Nat))]) (fun _ => [pt b5 COT (ldv b), pt b4 COT (ldv a)]) (fun k => k ≤ 3) (fun k => 3 - k) 0 ⟨rfl, rfl, trivial⟩ (by repeat (first | exact List.nil_sublist _ | exact List.Sublist.refl _ | apply List.Sublist.cons_cons | apply List.Sublist.cons)) (by omega) ?_
  intro k U hk
  by_cases hlt : k < 3
  · have hga := ldv_get (ld := a) (k := k) (by omega)
    have hgb := ldv_get (ld := b) (k := k) (by omega)
    have hga2 : (ldv a)[0 + (0 + k * 1)]? = some (iv (nth a k : Nat)) := by rw [show 0 + (0 + k * 1) = k * 1 from by omega, hga]
    have hgb2 : (ldv b)[0 + (0 + k * 1)]? = some (iv (nth b k : Nat)) := by rw [show 0 + (0 + k * 1) = k * 1 from by omega, hgb]
    refine WC.seq fun K hK => ?_
    refine WC.region rfl ?_
    refine wG rfl rfl (g_lt rfl (.mk rfl rfl) (.mk rfl rfl) (decide_eq_true (by omega))) ?_
    refine WL.nil ?_
    (refine hK _ _ ?_; clear hK)
    refine WC.seq fun K hK => ?_
    refine WC.cond_true (.mk rfl rfl) ?_
    refine WC.skip ?_
    (refine hK _ _ ?_; clear hK)
    refine WC.seq fun K hK => ?_
    refine WC.block ?_
    refine WC.seq fun K hK => ?_
    refine WC.region rfl ?_
    refine wG rfl rfl (g_move rfl (.mk (v := .int _ _) rfl rfl)) ?_
    refine wG rfl rfl (g_assign rfl (.mk (v := .int _ _) rfl rfl)) ?_
    refine WL.nil ?_
    (refine hK _ _ ?_; clear hK)
    refine WC.quiet rfl (by kernel_rfl) (by decide +kernel) ?_
    refine WQ.want rfl (WQ1.give rfl (g_move rfl (.mk (v := cellPtr _ _) rfl rfl)) ?_)
    refine WQ.want rfl (WQ1.give rfl (g_nilCheck rfl (.mk rfl rfl) (fun _ _ => rfl)) ?_)
    refine WQ.want rfl (WQ1.give rfl (g_fieldAddr (off := 0) rfl (.mk rfl rfl) rfl (fun _ _ => rfl)) ?_)
    refine WQ.want rfl (WQ1.give rfl (g_load rfl (.mk rfl rfl) rfl (rd_wb hs)) ?_)
    refine WQ.want rfl (WQ1.give rfl (g_move rfl (.mk (v := .int _ _) rfl rfl)) ?_)
    refine WQ.want rfl (WQ1.give rfl (g_move rfl (.mk (v := cellPtr _ _) rfl rfl)) ?_)
    refine WQ.want rfl (WQ1.give rfl (g_nilCheck rfl (.mk rfl rfl) (fun _ _ => rfl)) ?_)
    refine WQ.want rfl (WQ1.give rfl (g_fieldAddr (off := 0) rfl (.mk rfl rfl) rfl (fun _ _ => rfl)) ?_)
    refine WQ.want rfl (WQ1.give rfl (g_load rfl (.mk rfl rfl) rfl (rd_wb hs)) ?_)
    refine WQ.want rfl (WQ1.give rfl (g_move rfl (.mk (v := .int _ _) rfl rfl)) ?_)
    refine WQ.want rfl (WQ1.give rfl (g_indexAddrA (sz := 1) rfl (.mk rfl rfl) (.mk rfl rfl) rfl rfl rfl (by omega) (fun _ _ => rfl)) ?_)
    refine WQ.want rfl (WQ1.give rfl (g_load rfl (.mk rfl rfl) rfl (rd_pt (by first | ((repeat (first | exact .head _ | apply List.Mem.tail)); done) | fail) hga2)) ?_)
    refine WQ.want rfl (WQ1.give rfl (g_move rfl (.mk (v := .int _ _) rfl rfl)) ?_)
    refine WQ.want rfl (WQ1.give rfl (g_indexAddrA (sz := 1) rfl (.mk rfl rfl) (.mk rfl rfl) rfl rfl rfl (by omega) (fun _ _ => rfl)) ?_)
    refine WQ.want rfl (WQ1.give rfl (g_load rfl (.mk rfl rfl) rfl (rd_pt (by first | ((repeat (first | exact .head _ | apply List.Mem.tail)); done) | fail) hgb2)) ?_)
    refine WQ.want rfl (WQ1.callP rfl rfl rfl (.cons (.mk (v := cellPtr _ _) rfl rfl) (.cons (.mk (v := .int _ _) rfl rfl) (.cons (.mk (v := .int _ _) rfl rfl) .nil))) (fun w hw => hml k hlt w hw.1) ?_)
    refine WQ.want rfl (WQ1.callP rfl rfl rfl (.cons (.mk (v := cellPtr _ _) rfl rfl) (.cons (.mk (v := .int _ _) rfl rfl) (.cons (.mk (v := .int _ _) rfl rfl) .nil))) (fun w hw => had k w hw.1) ?_)
    refine WQ.want rfl (WQ1.give rfl (g_assign rfl (.mk (v := .int _ _) rfl rfl)) ?_)
    refine WQ.nil ?_
    (refine hK _ _ ?_; clear hK)
    refine WC.region rfl ?_
    refine wG rfl rfl (g_add rfl (.mk rfl rfl) (.mk rfl rfl) (IntWalk.i64_in _ (by omega))) ?_
    refine wG rfl rfl (g_move rfl (.mk (v := .int _ _) rfl rfl)) ?_
    refine WL.nil ?_
    exact ⟨k + 1, (by repeat (first | with_reducible exact Out.refl _ _ | refine Out.set rfl ?_ | refine Out.put rfl ?_ | refine Out.sets rfl ?_ | refine Out.hav rfl ?_ | exact Out.refl _ _)), ⟨rfl, rfl, trivial⟩, (by repeat (first | exact List.nil_sublist _ | exact List.Sublist.refl _ | apply List.Sublist.cons_cons | apply List.Sublist.cons)), by omega, by omega⟩
  · obtain rfl : k = 3 := by omega
    refine WC.seq fun K hK => ?_
    refine WC.region rfl ?_
    refine wG rfl rfl (g_lt rfl (.mk rfl rfl) (.mk rfl rfl) (decide_eq_false (by omega))) ?_
    refine WL.nil ?_
    (refine hK _ _ ?_; clear hK)
    refine WC.seq fun K hK => ?_
    refine WC.cond_false (.mk rfl rfl) ?_
    refine WC.exit ?_
    (clear hK; refine hK _ _ ?_; clear hK)
    refine WC.seq fun K hK => ?_
    refine WC.region rfl ?_
    refine wG rfl rfl (g_move rfl (.mk (v := .int _ _) rfl rfl)) ?_
    refine wG rfl rfl (g_assign rfl (.mk (v := .int _ _) rfl rfl)) ?_
    refine WL.nil ?_
    (refine hK _ _ ?_; clear hK)
    refine WC.ret ?_
    exact fun w' hw' => ⟨rfl, hw'.1⟩
end Go.Proofs.Ytdcijljfgcjelaa
namespace Go.Proofs.Ytdcijljfgcjelaa
set_option maxRecDepth 20000
open Go.RowKit Go.ChangeMaps Go.MapKept
section
def selfR (v : Value) : Option (DataW Value × List MemPlace) := some (.held v, [])
def mp (P : Program) (k : TypeId) (b n : Nat) (D : DataW Value) : Asrt where
  foot i := i = b
  ok w := w.ownsMap P k selfR b n D
  loc w w' h hw := by
    obtain ⟨es, clock, hb, r⟩ := hw
    exact ⟨es, clock, (h b rfl).trans hb, r⟩
theorem H.newMap {P : Program} {w0 w : World} {L : List Asrt} (k : TypeId) (h : H w0 L w) : H w0 (mp P k w.heap.size 0 (.map []) :: L) (w.alloc (.map #[] 0)) := by
  have hb : Below w.heap.size w (w.alloc (.map #[] 0)) := below_alloc w _
  have h' := h.below hb
  refine ⟨h'.1, World.ownsMap_made w P k selfR, fun b hb' => ?_, fun C hC b hb' hc => ?_, h'.2⟩
  · have hb'' : b = w.heap.size := hb'
    subst hb''
    exact ⟨h.1.size, by simp⟩
  · have hb'' : b = w.heap.size := hb'
    subst hb''
    have := ((h.2.in_ C hC).2 _ hc).2
    omega
end
def rgA (P : Program) (k : TypeId) (b r c : Nat) (D : DataW Value) (left : Lit → Bool) (cnt : Nat) : Asrt where
  foot i := i = b ∨ i = r
  ok w := w.ranges P k selfR b r c D left cnt
  loc w w' h hw := by
    obtain ⟨es, clock, since, seen, c0, hb, h1, h2, h3, hr, rest⟩ := hw
    exact ⟨es, clock, since, seen, c0, (h b (.inl rfl)).trans hb, h1, h2, h3, (h r (.inr rfl)).trans hr, rest⟩
theorem entry_loc {P : Program} {w w' : World} {r b since c0 clock : Nat} {seen : Array Nat} {es : Array MapEntry} {v : Value} (hr : w.heap[r]? = some (.mapIter (some b) since seen c0)) (hb : w.heap[b]? = some (.map es clock)) (hr' : w'.heap[r]? = some (.mapIter (some b) since seen c0)) (hb' : w'.heap[b]? = some (.map es clock))
    (h : (Instr.entry (.pointer (some ⟨r, 0, none⟩))).run P w = .ok v w) : (Instr.entry (.pointer (some ⟨r, 0, none⟩))).run P w' = .ok v w' := by
  simp only [Instr.entry, getObj, Sem.run_bind, Sem.run, hr, hr', Result.andThen] at h ⊢
  cases hs : seen.back? with
  | none => simp [hs, stuck] at h
  | some st =>
    simp only [hs, Sem.run_bind, Sem.run, hb, hb', Result.andThen] at h ⊢
    by_cases hc : (clock != c0) = true
    · rw [if_pos hc] at h; simp [unsupported] at h
    · rw [if_neg hc] at h ⊢
      cases hf : es.find? (fun x => x.born == st) with
      | none => simp only [hf] at h; simp [unsupported] at h
      | some e => simp only [hf] at h ⊢; simpa using h
def rgE (P : Program) (k : TypeId) (b r c : Nat) (D : DataW Value) (left : Lit → Bool) (cnt : Nat) (key v : Value) : Asrt where
  foot i := i = b ∨ i = r
  ok w := w.ranges P k selfR b r c D left cnt ∧ (Instr.entry (.pointer (some ⟨r, 0, none⟩))).run P w = .ok (.tuple #[key, v]) w
  loc w w' h hw := by
    obtain ⟨hw, hen⟩ := hw
    obtain ⟨es, clock, since, seen, c0, hb, h1, h2, h3, hr, rest⟩ := hw
    exact ⟨⟨es, clock, since, seen, c0, (h b (.inl rfl)).trans hb, h1, h2, h3, (h r (.inr rfl)).trans hr, rest⟩, entry_loc hr hb ((h r (.inr rfl)).trans hr) ((h b (.inl rfl)).trans hb) hen⟩
section
variable {P : Program} {n : Fr} {w0 : World} {ops : Array Oper} {K : Post} {o : Oper} {rest : List Oper} {E : Env} {L : List Asrt}
theorem WL1.makeMap {t k : TypeId} {d : Nat} (ho : o.op = .makeMap t none) (hd : o.dst = some d)
    (h : ∀ b, WL P n w0 ops K rest (E.set d (.map (some b))) (mp P k b 0 (.map []) :: L)) : WL1 P n w0 ops K o rest E L := fun w hw Q hQ K' hK => by
  unfold Oper.wp execOp
  simp only [ho, Option.map_none, run_makeMap, Sem.run_bind, Sem.run, Sem.run_pure, Result.andThen_ok]
  show K' _ _
  rw [actOf_put, hd]
  exact hK _ _ (h w.heap.size _ (hw.newMap k) Q hQ)
open Go.Maps (Keyed) in
theorem WL1.mapUpdate {t k e : TypeId} {m kx x : Operand} {b c : Nat} {D : DataW Value} {key val : Value} {kl : Lit} {L' : List Asrt} (ho : o.op = .mapUpdate t m kx x) (hd : o.dst = none) (hm : Ev n E m (.map (some b))) (hk : Ev n E kx key) (hx : Ev n E x val)
    (K0 : Keyed P k) (ht : P.underlying t = some (.map k e)) (hc : c < maxLen) (hkey : keyOf P k key = some kl) (hs : Swap (mp P k b c D) (mp P k b (c + 1) (D.put kl (.held val))) L L') (h : WL P n w0 ops K rest E L') : WL1 P n w0 ops K o rest E L := fun w hw Q hQ K' hK => by
  have hown : w.ownsMap P k selfR b c D := (hw.2.in_ _ hs.mem).1
  obtain ⟨w', hrun, hown', es, clock, es', clock', hb, rfl⟩ := hown.store K0 ht hc (d := .held val) (ps := []) hkey rfl
  unfold Ev at hm hk hx
  unfold Oper.wp execOp
  simp only [ho, hm, hk, hx, Sem.run_bind, Sem.run_pure, Result.andThen_ok, hrun]
  show K' _ _
  rw [actOf_put, hd]
  refine hK _ _ (h _ ?_ Q hQ)
  exact hw.swapped hs (by simp [setBlock]) rfl rfl rfl (fun _ h => h) (fun i hi => heap_setBlock_other hb _ hi) hown'
end
end Go.Proofs.Ytdcijljfgcjelaa
namespace Go.Proofs.Ytdcijljfgcjelaa
set_option maxRecDepth 20000
open Go.RowKit
attribute [local irreducible] Calls
theorem eqv_co (x y z x' y' z' : Nat) (p : Bool) (h : (decide (x = x') && decide (y = y') && decide (z = z')) = p) : EqV Try.prog COT (.agg (ldv [x, y, z]).toArray) (.agg (ldv [x', y', z']).toArray) p := by
  refine EqV.arr (m := 3) (e := 3) (k0 := .i64) (by kernel_rfl) rfl (by kernel_rfl) (by kernel_rfl) (fun j hj => ?_) ?_
  · obtain rfl | rfl | rfl : j = 0 ∨ j = 1 ∨ j = 2 := by omega
    · exact ⟨_, _, rfl, rfl, rfl⟩
    · exact ⟨_, _, rfl, rfl, rfl⟩
    · exact ⟨_, _, rfl, rfl, rfl⟩
  · have hc : ∀ a b : Nat, ceq (iv a) (iv b) = decide (a = b) := fun a b => by
      by_cases e : a = b
      · subst e; rw [decide_eq_true rfl]; show (_ == _) = true; simp
      · rw [decide_eq_false e]; show (_ == _) = false; simp; omega
    rw [← h, show (List.range 3) = [0, 1, 2] from rfl]
    show (ceq (iv x) (iv x') && (ceq (iv y) (iv y') && (ceq (iv z) (iv z') && true))) = _
    rw [hc, hc, hc, Bool.and_true, Bool.and_assoc]
theorem nrm_ok (x y z : Nat) (hx : x < 2) (hy : y < 3) (hz : z < 3) (h : okN x y z = true) : nrmL x y z = [x, y, z] ∧ (decide (x = 0) && decide (y = 0) && decide (z = 0)) = false := by
  obtain rfl | rfl : x = 0 ∨ x = 1 := by omega
  all_goals obtain rfl | rfl | rfl : y = 0 ∨ y = 1 ∨ y = 2 := by omega
  all_goals obtain rfl | rfl | rfl : z = 0 ∨ z = 1 ∨ z = 2 := by omega
  all_goals first | exact absurd h (by decide) | exact ⟨rfl, rfl⟩
theorem nrm_no (x y z : Nat) (hx : x < 2) (hy : y < 3) (hz : z < 3) (h : okN x y z = false) : (x = 0 ∧ y = 0 ∧ z = 0) ∨ (decide (nth (nrmL x y z) 0 = x) && decide (nth (nrmL x y z) 1 = y) && decide (nth (nrmL x y z) 2 = z)) = false := by
  obtain rfl | rfl : x = 0 ∨ x = 1 := by omega
  all_goals obtain rfl | rfl | rfl : y = 0 ∨ y = 1 ∨ y = 2 := by omega
  all_goals obtain rfl | rfl | rfl : z = 0 ∨ z = 1 ∨ z = 2 := by omega
  all_goals first | exact absurd h (by decide) | exact .inl ⟨rfl, rfl, rfl⟩ | exact .inr rfl
theorem nrm_3 (x y z : Nat) : nrmL x y z = [nth (nrmL x y z) 0, nth (nrmL x y z) 1, nth (nrmL x y z) 2] := by
  unfold nrmL
  split <;> rfl
theorem laidP : laidOutB Try.prog = true := by kernel_rfl
theorem kC : Maps.Keyed Try.prog COT := Maps.Keyed.of_law (deep_law_laid laidP (m := 4) (by omega) (of_decide_eq_true (by kernel_rfl)) (by kernel_rfl) (by kernel_rfl))
theorem keyC (x y z : Nat) (h : x < 2) (h2 : y < 3) (h3 : z < 3) : ∃ kl, keyOf Try.prog COT (.agg (ldv [x, y, z]).toArray) = some kl := by
  have key : ∀ (x y z : Nat), (keyOf Try.prog COT (.agg (ldv [x, y, z]).toArray)).isSome = true → ∃ kl, keyOf Try.prog COT (.agg (ldv [x, y, z]).toArray) = some kl := fun x y z h => Option.isSome_iff_exists.1 h
  refine key x y z ?_
  obtain rfl | rfl : x = 0 ∨ x = 1 := by omega
  all_goals obtain rfl | rfl | rfl : y = 0 ∨ y = 1 ∨ y = 2 := by omega
  all_goals obtain rfl | rfl | rfl : z = 0 ∨ z = 1 ∨ z = 2 := by omega
  all_goals kernel_rfl
theorem elPC : Elem Try.prog 109 COT (.agg #[iv 0, iv 0, iv 0]) 3 24 := ⟨by kernel_rfl, by kernel_rfl, rfl, by decide⟩
abbrev SPT : TypeId := 112
def plL (bs bf bm N : Nat) (D S Pp : Option Addr × Nat) (mD : DataW Value) (sm pr : List IRow) : List Asrt :=
  pt bs SPT [bpv bf, .slice D.1 (coL N).length D.2, .map (some bm)] :: vec D.1 (coL N).length D.2 COT 3 (cc (coL N)) :: mp Try.prog COT bm (coL N).length mD :: pt bf FT [iv 3, iv 3, .slice S.1 3 S.2, .slice Pp.1 3 Pp.2] :: vec S.1 3 S.2 32 1 (sm.map IRow.v) :: rowsI sm :: vec Pp.1 3 Pp.2 32 1 (pr.map IRow.v) :: rowsI pr :: []
set_option maxHeartbeats 4000000 in
theorem open3_n (w : World) : Calls Try.prog 62 #[iv 3] w fun e w' => ∃ u M, e = .returned u ∧ H w M w' ∧ ∃ bs bf bm D S Pp mD sm pr, ils sm = smT 3 ∧ ils pr = prT 3 ∧ u = .tuple #[bpv bs, iv 0] ∧ M = plL bs bf bm 18 D S Pp mD sm pr := by
  refine calls_wc (args := [iv 3]) [2, 3] [] Try.func62 rfl Try.ntmps62 rfl rfl rfl rfl (H.refl _) ?_
  refine WC.seq fun K hK => ?_
  refine WC.region rfl ?_
  refine wG rfl rfl (g_assign rfl (.mk (v := .pointer _) rfl rfl)) ?_
  refine wG rfl rfl (g_assign rfl (.mk (v := .int _ _) rfl rfl)) ?_
  refine WL.nil ?_
  (refine hK _ _ ?_; clear hK)
  refine WC.seq fun K hK => ?_
  refine WC.region rfl ?_
  refine wG rfl rfl (g_move rfl (.mk (v := .int _ _) rfl rfl)) ?_
  (refine WL.want rfl (WL1.callN rfl rfl rfl (.cons (.mk (v := .int _ _) rfl rfl) .nil) (fun w hw => sfnew_n w) ?_); rintro _ _ ⟨bf, S, cS, Pp, cP, sm, pr, e1, e2, rfl, rfl⟩)
  refine wG rfl rfl (g_move rfl (.mk (v := .tuple _) rfl rfl)) ?_
  refine wG rfl rfl (g_extract rfl (.mk rfl rfl) rfl) ?_
  refine wG rfl rfl (g_extract rfl (.mk rfl rfl) rfl) ?_
  refine wG rfl rfl (g_assign rfl (.mk (v := cellPtr _ _) rfl rfl)) ?_
  refine wG rfl rfl (g_assign rfl (.mk (v := .int _ _) rfl rfl)) ?_
  refine WL.nil ?_
  (refine hK _ _ ?_; clear hK)
  refine WC.seq fun K hK => ?_
  refine WC.seq fun K hK => ?_
  refine WC.region rfl ?_
  refine wG rfl rfl (g_move rfl (.mk (v := .int _ _) rfl rfl)) ?_
  refine wG rfl rfl (g_ne rfl (.mk rfl rfl) (.mk rfl rfl) (decide_eq_false (by omega))) ?_
  refine WL.nil ?_
  (refine hK _ _ ?_; clear hK)
  refine WC.cond_false (.mk rfl rfl) ?_
  refine WC.skip ?_
  (refine hK _ _ ?_; clear hK)
  refine WC.seq fun K hK => ?_
  refine WC.seq fun K hK => ?_
  refine WC.region rfl ?_
  refine wG rfl rfl (g_move rfl (.mk (v := .int _ _) rfl rfl)) ?_
  refine wG rfl rfl (g_move rfl (.mk (v := .int _ _) rfl rfl)) ?_
  refine wG rfl rfl (g_mul rfl (.mk rfl rfl) (.mk rfl rfl) (IntWalk.i64_in _ (by omega))) ?_
  refine wG rfl rfl (g_move rfl (.mk (v := .int _ _) rfl rfl)) ?_
  refine wG rfl rfl (g_add rfl (.mk rfl rfl) (.mk rfl rfl) (IntWalk.i64_in _ (by omega))) ?_
  refine wG rfl rfl (g_add rfl (.mk rfl rfl) (.mk rfl rfl) (IntWalk.i64_in _ (by omega))) ?_
  refine wG rfl rfl (g_gt rfl (.mk rfl rfl) (.mk rfl rfl) (decide_eq_false (by omega))) ?_
  refine WL.nil ?_
  (refine hK _ _ ?_; clear hK)
  refine WC.cond_false (.mk rfl rfl) ?_
  refine WC.skip ?_
  (refine hK _ _ ?_; clear hK)
  refine WC.seq fun K hK => ?_
  refine WC.region rfl ?_
  refine wG rfl rfl (g_move rfl (.mk (v := cellPtr _ _) rfl rfl)) ?_
  refine WL.want rfl (WL1.makeMap (k := COT) rfl rfl (fun b26 => ?_))
  refine wG rfl rfl (g_build (cs := [bpv bf, .slice none 0 0, .map (some b26)]) rfl rfl rfl rfl (.cons (.mk (v := bpv bf) rfl rfl) (.cons (.mk (v := .map _) rfl rfl) .nil)) (by simp only [List.all_cons, List.all_nil, cellPtr_one, Bool.and_true] <;> rfl) rfl rfl) ?_
  refine WL.want rfl (WL1.box rfl rfl (.mk (v := .agg _) rfl rfl) rfl (fun b28 => ?_))
  refine wG rfl rfl (g_assign rfl (.mk (v := cellPtr _ _) rfl rfl)) ?_
  refine WL.nil ?_
  (refine hK _ _ ?_; clear hK)
  refine WC.seq fun K hK => ?_
  refine WC.seq fun K hK => ?_
  refine WC.region rfl ?_
  refine wG rfl rfl (g_move rfl (.mk (v := .int _ _) rfl rfl)) ?_
  refine WL.nil ?_
  (refine hK _ _ ?_; clear hK)
  refine WC.block ?_
  refine WC.nilvec COT 3 ?_
  refine WC.loopI3 (151115727451828109969280) (fun (x : Nat) (D : Option Addr × Nat) (mD : DataW Value) => [(29, iv x)]) (fun x D mD => plL b28 bf b26 (9 * x) D (S, cS) (Pp, cP) mD sm pr) (fun x _ _ => x ≤ 2) (fun x _ _ => 2 - x) 0 (none, 0) (.map []) ⟨rfl, trivial⟩ ?_ (by omega) ?_
  · exact Imp.pick (by repeat (first | exact .head | apply Take.tail)) (Imp.pick (by repeat (first | exact .head | apply Take.tail)) (Imp.pick (by repeat (first | exact .head | apply Take.tail)) (Imp.pick (by repeat (first | exact .head | apply Take.tail)) (Imp.pick (by repeat (first | exact .head | apply Take.tail)) (Imp.pick (by repeat (first | exact .head | apply Take.tail)) (Imp.pick (by repeat (first | exact .head | apply Take.tail)) (Imp.pick (by repeat (first | exact .head | apply Take.tail)) (Imp.nil _))))))))
  rintro x ⟨A, c⟩ mD U hx
  by_cases hx3 : x < 2
  · refine WC.seq fun K hK => ?_
    refine WC.region rfl ?_
    refine wG rfl rfl (g_lt rfl (.mk rfl rfl) (.mk rfl rfl) (decide_eq_true (by omega))) ?_
    refine WL.nil ?_
    (refine hK _ _ ?_; clear hK)
    refine WC.seq fun K hK => ?_
    refine WC.cond_true (.mk rfl rfl) ?_
    refine WC.skip ?_
    (refine hK _ _ ?_; clear hK)
    refine WC.seq fun K hK => ?_
    refine WC.block ?_
    refine WC.seq fun K hK => ?_
    refine WC.region rfl ?_
    refine wG rfl rfl (g_move rfl (.mk (v := .int _ _) rfl rfl)) ?_
    refine wG rfl rfl (g_assign rfl (.mk (v := .int _ _) rfl rfl)) ?_
    refine WL.nil ?_
    (refine hK _ _ ?_; clear hK)
    refine WC.seq fun K hK => ?_
    refine WC.region rfl ?_
    refine wG rfl rfl (g_move rfl (.mk (v := .int _ _) rfl rfl)) ?_
    refine wG rfl rfl (g_move rfl (.mk (v := .int _ _) rfl rfl)) ?_
    refine WL.nil ?_
    (refine hK _ _ ?_; clear hK)
    refine WC.block ?_
    refine WC.loopI3 (75557863725905733486336) (fun (y : Nat) (D : Option Addr × Nat) (mD : DataW Value) => [(33, iv y)]) (fun y D mD => plL b28 bf b26 (9 * x + 3 * y) D (S, cS) (Pp, cP) mD sm pr) (fun y _ _ => y ≤ 3) (fun y _ _ => 3 - y) 0 (A, c) mD ⟨rfl, trivial⟩ (Imp.refl _) (by omega) ?_
    rintro y ⟨A, c⟩ mD U2 hy
    by_cases hy3 : y < 3
    · refine WC.seq fun K hK => ?_
      refine WC.region rfl ?_
      refine wG rfl rfl (g_lt rfl (.mk rfl rfl) (.mk rfl rfl) (decide_eq_true (by omega))) ?_
      refine WL.nil ?_
      (refine hK _ _ ?_; clear hK)
      refine WC.seq fun K hK => ?_
      refine WC.cond_true (.mk rfl rfl) ?_
      refine WC.skip ?_
      (refine hK _ _ ?_; clear hK)
      refine WC.seq fun K hK => ?_
      refine WC.block ?_
      refine WC.seq fun K hK => ?_
      refine WC.region rfl ?_
      refine wG rfl rfl (g_move rfl (.mk (v := .int _ _) rfl rfl)) ?_
      refine wG rfl rfl (g_assign rfl (.mk (v := .int _ _) rfl rfl)) ?_
      refine WL.nil ?_
      (refine hK _ _ ?_; clear hK)
      refine WC.seq fun K hK => ?_
      refine WC.region rfl ?_
      refine wG rfl rfl (g_move rfl (.mk (v := .int _ _) rfl rfl)) ?_
      refine wG rfl rfl (g_move rfl (.mk (v := .int _ _) rfl rfl)) ?_
      refine WL.nil ?_
      (refine hK _ _ ?_; clear hK)
      refine WC.block ?_
      refine WC.loopI3 (37778931862819722757632) (fun (z : Nat) (D : Option Addr × Nat) (mD : DataW Value) => [(37, iv z)]) (fun z D mD => plL b28 bf b26 (9 * x + 3 * y + z) D (S, cS) (Pp, cP) mD sm pr) (fun z _ _ => z ≤ 3) (fun z _ _ => 3 - z) 0 (A, c) mD ⟨rfl, trivial⟩ (Imp.refl _) (by omega) ?_
      rintro z ⟨A, c⟩ mD U3 hz
      by_cases hz3 : z < 3
      · have hst := coL_step (x := x) hy3 hz3
        have hln := coL_len (9 * x + 3 * y + z)
        have hcc : cc (coL (9 * x + 3 * y + z)) ++ [iv x, iv y, iv z] = cc (coL (9 * x + 3 * y + z) ++ [[x, y, z]]) := cc_app _ [[x, y, z]]
        have hl1 : (coL (9 * x + 3 * y + z) ++ [[x, y, z]]).length = (coL (9 * x + 3 * y + z)).length + 1 := by rw [List.length_append]; rfl
        have hnm := fun {bs bf} (w : World) (hs : w.cell? ⟨bs, 0, none⟩ = some (bpv bf)) (hf : FldAt w bf) => normal_e x y z (by omega) hy3 hz3 hs hf
        obtain ⟨kl, hkl⟩ := keyC x y z hx3 hy3 hz3
        unfold plL
        cases hb : okN x y z with
        | true =>
          obtain ⟨k1, k2⟩ := nrm_ok x y z hx3 hy3 hz3 hb
          rw [k1] at hnm
          have E1 := eqv_co x y z x y z true (by simp)
          have E2 := eqv_co x y z 0 0 0 false k2
          rw [if_pos hb] at hst
          refine WC.seq fun K hK => ?_
          refine WC.region rfl ?_
          refine wG rfl rfl (g_lt rfl (.mk rfl rfl) (.mk rfl rfl) (decide_eq_true (by omega))) ?_
          refine WL.nil ?_
          (refine hK _ _ ?_; clear hK)
          refine WC.seq fun K hK => ?_
          refine WC.cond_true (.mk rfl rfl) ?_
          refine WC.skip ?_
          (refine hK _ _ ?_; clear hK)
          refine WC.seq fun K hK => ?_
          refine WC.block ?_
          refine WC.seq fun K hK => ?_
          refine WC.region rfl ?_
          refine wG rfl rfl (g_move rfl (.mk (v := .int _ _) rfl rfl)) ?_
          refine wG rfl rfl (g_assign rfl (.mk (v := .int _ _) rfl rfl)) ?_
          refine WL.nil ?_
          (refine hK _ _ ?_; clear hK)
          refine WC.seq fun K hK => ?_
          refine WC.region rfl ?_
          refine wG rfl rfl (g_move rfl (.mk (v := .int _ _) rfl rfl)) ?_
          refine wG rfl rfl (g_move rfl (.mk (v := .int _ _) rfl rfl)) ?_
          refine wG rfl rfl (g_move rfl (.mk (v := .int _ _) rfl rfl)) ?_
          refine wG rfl rfl (g_buildArr (cs := [_, _, _]) rfl rfl rfl rfl rfl (.cons (.mk (v := .int _ _) rfl rfl) (.cons (.mk (v := .int _ _) rfl rfl) (.cons (.mk (v := .int _ _) rfl rfl) .nil))) rfl rfl rfl) ?_
          refine WL.want rfl (WL1.alloc rfl rfl rfl rfl (fun b10 => ?_))
          refine WL.want rfl (WL1.storeAll rfl rfl (.mk rfl rfl) (.mk rfl rfl) rfl (all1 rfl) (by first | rfl | (simp [Blk.len]; done)) (.head) ?_)
          refine WL.nil ?_
          (refine hK _ _ ?_; clear hK)
          refine WC.seq fun K hK => ?_
          refine WC.quiet rfl (by kernel_rfl) (by decide +kernel) ?_
          refine WQ.want rfl (WQ1.give rfl (g_move rfl (.mk (v := cellPtr _ _) rfl rfl)) ?_)
          refine WQ.want rfl (WQ1.give rfl (g_loadA rfl (.mk rfl rfl) rfl rfl (rdr_pt (cs := [iv x, iv y, iv z]) (by first | ((repeat (first | exact .head _ | apply List.Mem.tail)); done) | fail) (fun j u h => by simpa using h))) ?_)
          refine WQ.want rfl (WQ1.callP rfl rfl rfl (.cons (.mk (v := cellPtr _ _) rfl rfl) (.cons (.mk (v := .agg _) rfl rfl) .nil)) (fun w hw => hnm w (cell_pt hw (by first | ((repeat (first | exact .head _ | apply List.Mem.tail)); done) | fail) rfl) (FldAt.of hw (by first | ((repeat (first | exact .head _ | apply List.Mem.tail)); done) | fail) (by first | ((repeat (first | exact .head _ | apply List.Mem.tail)); done) | fail) (by first | ((repeat (first | exact .head _ | apply List.Mem.tail)); done) | fail) (by first | ((repeat (first | exact .head _ | apply List.Mem.tail)); done) | fail) (by first | ((repeat (first | exact .head _ | apply List.Mem.tail)); done) | fail) e1 e2)) ?_)
          refine WQ.want rfl (WQ1.give rfl (g_loadA rfl (.mk rfl rfl) rfl rfl (rdr_pt (cs := [iv x, iv y, iv z]) (by first | ((repeat (first | exact .head _ | apply List.Mem.tail)); done) | fail) (fun j u h => by simpa using h))) ?_)
          refine WQ.want rfl (WQ1.give rfl (g_aeq (by kernel_rfl) rfl (.mk rfl rfl) (.mk rfl rfl) E1) ?_)
          refine WQ.want rfl (WQ1.give rfl (g_move rfl (.mk (v := .bool _) rfl rfl)) ?_)
          refine WQ.wantG rfl rfl rfl rfl (WQ1.give rfl (g_loadA rfl (.mk rfl rfl) rfl rfl (rdr_pt (cs := [iv x, iv y, iv z]) (by first | ((repeat (first | exact .head _ | apply List.Mem.tail)); done) | fail) (fun j u h => by simpa using h))) ?_)
          refine WQ.wantG rfl rfl rfl rfl (WQ1.give rfl (g_buildArr (cs := [_, _, _]) rfl rfl rfl rfl rfl .nil rfl rfl rfl) ?_)
          refine WQ.wantG rfl rfl rfl rfl (WQ1.give rfl (g_ane (by kernel_rfl) rfl (.mk rfl rfl) (.mk rfl rfl) E2) ?_)
          refine WQ.want rfl (WQ1.give rfl (g_pickT rfl (.mk rfl rfl) (.mk (v := .bool _) rfl rfl)) ?_)
          refine WQ.nil ?_
          (refine hK _ _ ?_; clear hK)
          refine WC.cond_true (.mk rfl rfl) ?_
          refine WC.seq fun K hK => ?_
          refine WC.untilL [10] rfl (by kernel_rfl) ?_
          refine WB.takeP 0 rfl (by decide +kernel) (by decide +kernel) (by decide +kernel) (by decide +kernel) rfl rfl (.inr (Imp.sub (by first | ((repeat (first | exact List.nil_sublist _ | exact List.Sublist.refl _ | apply List.Sublist.cons_cons | apply List.Sublist.cons)); done) | fail))) (g_move rfl (.mk (v := cellPtr _ _) rfl rfl)) ?_
          refine WB.takeP 1 rfl (by decide +kernel) (by decide +kernel) (by decide +kernel) (by decide +kernel) rfl rfl (.inr (Imp.sub (by first | ((repeat (first | exact List.nil_sublist _ | exact List.Sublist.refl _ | apply List.Sublist.cons_cons | apply List.Sublist.cons)); done) | fail))) (g_nilCheck rfl (.mk rfl rfl) (fun _ _ => rfl)) ?_
          refine WB.takeP 2 rfl (by decide +kernel) (by decide +kernel) (by decide +kernel) (by decide +kernel) rfl rfl (.inr (Imp.sub (by first | ((repeat (first | exact List.nil_sublist _ | exact List.Sublist.refl _ | apply List.Sublist.cons_cons | apply List.Sublist.cons)); done) | fail))) (g_fieldAddr (off := 2) rfl (.mk rfl rfl) rfl (fun _ _ => rfl)) ?_
          refine WB.take 3 rfl (by decide +kernel) (by decide +kernel) (by decide +kernel) (by decide +kernel) rfl rfl (Imp.sub (by first | ((repeat (first | exact List.nil_sublist _ | exact List.Sublist.refl _ | apply List.Sublist.cons_cons | apply List.Sublist.cons)); done) | fail)) (g_load rfl (.mk rfl rfl) rfl (rd_pt (.tail _ (.head _)) rfl)) ?_
          refine WB.take 4 rfl (by decide +kernel) (by decide +kernel) (by decide +kernel) (by decide +kernel) rfl rfl (Imp.sub (by first | ((repeat (first | exact List.nil_sublist _ | exact List.Sublist.refl _ | apply List.Sublist.cons_cons | apply List.Sublist.cons)); done) | fail)) (g_loadA rfl (.mk rfl rfl) rfl rfl (rdr_pt (cs := [iv x, iv y, iv z]) (by first | ((repeat (first | exact .head _ | apply List.Mem.tail)); done) | fail) (fun j u h => by simpa using h))) ?_
          refine WB.takeP 5 rfl (by decide +kernel) (by decide +kernel) (by decide +kernel) (by decide +kernel) rfl rfl (.inr (Imp.sub (by first | ((repeat (first | exact List.nil_sublist _ | exact List.Sublist.refl _ | apply List.Sublist.cons_cons | apply List.Sublist.cons)); done) | fail))) (g_move rfl (.mk (v := cellPtr _ _) rfl rfl)) ?_
          refine WB.takeP 6 rfl (by decide +kernel) (by decide +kernel) (by decide +kernel) (by decide +kernel) rfl rfl (.inr (Imp.sub (by first | ((repeat (first | exact List.nil_sublist _ | exact List.Sublist.refl _ | apply List.Sublist.cons_cons | apply List.Sublist.cons)); done) | fail))) (g_nilCheck rfl (.mk rfl rfl) (fun _ _ => rfl)) ?_
          refine WB.takeP 7 rfl (by decide +kernel) (by decide +kernel) (by decide +kernel) (by decide +kernel) rfl rfl (.inr (Imp.sub (by first | ((repeat (first | exact List.nil_sublist _ | exact List.Sublist.refl _ | apply List.Sublist.cons_cons | apply List.Sublist.cons)); done) | fail))) (g_fieldAddr (off := 1) rfl (.mk rfl rfl) rfl (fun _ _ => rfl)) ?_
          refine WB.take 8 rfl (by decide +kernel) (by decide +kernel) (by decide +kernel) (by decide +kernel) rfl rfl (Imp.sub (by first | ((repeat (first | exact List.nil_sublist _ | exact List.Sublist.refl _ | apply List.Sublist.cons_cons | apply List.Sublist.cons)); done) | fail)) (g_load rfl (.mk rfl rfl) rfl (rd_pt (.tail _ (.head _)) rfl)) ?_
          refine WB.takeP 9 rfl (by decide +kernel) (by decide +kernel) (by decide +kernel) (by decide +kernel) rfl rfl (.inr (Imp.sub (by first | ((repeat (first | exact List.nil_sublist _ | exact List.Sublist.refl _ | apply List.Sublist.cons_cons | apply List.Sublist.cons)); done) | fail))) (g_len rfl (.mk rfl rfl) rfl) ?_
          refine WB.one 10 (by decide +kernel) rfl rfl ?_
          refine WL1.mapUpdate (c := (coL (9 * x + 3 * y + z)).length) (key := .agg (ldv [x, y, z]).toArray) (val := iv ((coL (9 * x + 3 * y + z)).length : Nat)) rfl rfl (.mk rfl rfl) (.mk rfl rfl) (.mk rfl rfl) kC rfl (by unfold maxLen; omega) hkl (by repeat (first | exact .head | apply Swap.tail)) ?_
          refine WL.nil ?_
          refine ⟨.inl (by decide +kernel), ?_⟩
          refine WB.done (by decide +kernel) ?_
          (refine hK _ _ ?_; clear hK)
          refine WC.until [pt b10 COT [iv x, iv y, iv z], pt b28 SPT [bpv bf, .slice A (coL (9 * x + 3 * y + z)).length c, .map (some b26)]] [10] rfl (by kernel_rfl) ?_
          refine WB.takeP 0 rfl (by decide +kernel) (by decide +kernel) (by decide +kernel) (by decide +kernel) rfl rfl (.inr (Imp.sub (by first | ((repeat (first | exact List.nil_sublist _ | exact List.Sublist.refl _ | apply List.Sublist.cons_cons | apply List.Sublist.cons)); done) | fail))) (g_move rfl (.mk (v := cellPtr _ _) rfl rfl)) ?_
          refine WB.takeP 1 rfl (by decide +kernel) (by decide +kernel) (by decide +kernel) (by decide +kernel) rfl rfl (.inr (Imp.sub (by first | ((repeat (first | exact List.nil_sublist _ | exact List.Sublist.refl _ | apply List.Sublist.cons_cons | apply List.Sublist.cons)); done) | fail))) (g_move rfl (.mk (v := cellPtr _ _) rfl rfl)) ?_
          refine WB.takeP 2 rfl (by decide +kernel) (by decide +kernel) (by decide +kernel) (by decide +kernel) rfl rfl (.inr (Imp.sub (by first | ((repeat (first | exact List.nil_sublist _ | exact List.Sublist.refl _ | apply List.Sublist.cons_cons | apply List.Sublist.cons)); done) | fail))) (g_nilCheck rfl (.mk rfl rfl) (fun _ _ => rfl)) ?_
          refine WB.takeP 3 rfl (by decide +kernel) (by decide +kernel) (by decide +kernel) (by decide +kernel) rfl rfl (.inr (Imp.sub (by first | ((repeat (first | exact List.nil_sublist _ | exact List.Sublist.refl _ | apply List.Sublist.cons_cons | apply List.Sublist.cons)); done) | fail))) (g_fieldAddr (off := 1) rfl (.mk rfl rfl) rfl (fun _ _ => rfl)) ?_
          refine WB.take 4 rfl (by decide +kernel) (by decide +kernel) (by decide +kernel) (by decide +kernel) rfl rfl (Imp.sub (by first | ((repeat (first | exact List.nil_sublist _ | exact List.Sublist.refl _ | apply List.Sublist.cons_cons | apply List.Sublist.cons)); done) | fail)) (g_load rfl (.mk rfl rfl) rfl (rd_pt (.tail _ (.head _)) rfl)) ?_
          refine WB.take 5 rfl (by decide +kernel) (by decide +kernel) (by decide +kernel) (by decide +kernel) rfl rfl (Imp.sub (by first | ((repeat (first | exact List.nil_sublist _ | exact List.Sublist.refl _ | apply List.Sublist.cons_cons | apply List.Sublist.cons)); done) | fail)) (g_loadA rfl (.mk rfl rfl) rfl rfl (rdr_pt (cs := [iv x, iv y, iv z]) (by first | ((repeat (first | exact .head _ | apply List.Mem.tail)); done) | fail) (fun j u h => by simpa using h))) ?_
          refine WB.one 6 (by decide +kernel) rfl rfl ?_
          refine WL1.lit (cs := [iv x, iv y, iv z]) elPC rfl rfl rfl (.cons (.mk (v := .agg _) rfl rfl) .nil) rfl (by intro v hv; rw [List.mem_singleton] at hv; subst hv; rfl) rfl rfl (fun b70 => ?_)
          refine WL.nil ?_
          refine ⟨.inr (Imp.sub (by first | ((repeat (first | exact List.nil_sublist _ | exact List.Sublist.refl _ | apply List.Sublist.cons_cons | apply List.Sublist.cons)); done) | fail)), ?_⟩
          refine WB.one 7 (by decide +kernel) rfl rfl ?_
          refine WL1.append elPC rfl rfl (.mk rfl rfl) (.mk rfl rfl) (.tail (.tail (.tail (.head)))) (fun w hw => Sl.of_vec hw (.head _)) (by intro u hu; simp only [List.mem_cons, List.not_mem_nil, or_false] at hu; rcases hu with rfl | rfl | rfl <;> rfl) (by unfold maxLen; omega) (by omega) (fun A71 c71 => ?_)
          refine WL.nil ?_
          refine ⟨.inr (Imp.sub (by first | ((repeat (first | exact List.nil_sublist _ | exact List.Sublist.refl _ | apply List.Sublist.cons_cons | apply List.Sublist.cons)); done) | fail)), ?_⟩
          refine WB.takeP 8 rfl (by decide +kernel) (by decide +kernel) (by decide +kernel) (by decide +kernel) rfl rfl (.inr (Imp.sub (by first | ((repeat (first | exact List.nil_sublist _ | exact List.Sublist.refl _ | apply List.Sublist.cons_cons | apply List.Sublist.cons)); done) | fail))) (g_nilCheck rfl (.mk rfl rfl) (fun _ _ => rfl)) ?_
          refine WB.takeP 9 rfl (by decide +kernel) (by decide +kernel) (by decide +kernel) (by decide +kernel) rfl rfl (.inr (Imp.sub (by first | ((repeat (first | exact List.nil_sublist _ | exact List.Sublist.refl _ | apply List.Sublist.cons_cons | apply List.Sublist.cons)); done) | fail))) (g_fieldAddr (off := 1) rfl (.mk rfl rfl) rfl (fun _ _ => rfl)) ?_
          refine WB.one 10 (by decide +kernel) rfl rfl ?_
          refine WL1.store1 rfl rfl (.mk rfl rfl) (.mk (v := .slice _ _ _) rfl rfl) rfl rfl (Nat.le_of_ble_eq_true rfl) (.tail (.tail (.tail (.head)))) ?_
          refine WL.nil ?_
          refine ⟨.inl (by decide +kernel), ?_⟩
          refine WB.done (by decide +kernel) ?_
          (refine hK _ _ ?_; clear hK)
          refine WC.region rfl ?_
          refine wG rfl rfl (g_add rfl (.mk rfl rfl) (.mk rfl rfl) (IntWalk.i64_in _ (by omega))) ?_
          refine wG rfl rfl (g_move rfl (.mk (v := .int _ _) rfl rfl)) ?_
          refine WL.nil ?_
          refine ⟨z + 1, (A71, c71), mD.put kl (.held (iv ((coL (9 * x + 3 * y + z)).length : Nat))), (by repeat (first | with_reducible exact Out.refl _ _ | refine Out.set rfl ?_ | refine Out.put rfl ?_ | refine Out.sets rfl ?_ | refine Out.hav rfl ?_ | exact Out.refl _ _)), ⟨rfl, trivial⟩, ?_, by omega, by omega⟩
          dsimp only [plL]
          rw [show coL (9 * x + 3 * y + (z + 1)) = coL (9 * x + 3 * y + z) ++ [[x, y, z]] from hst, hl1, ← hcc]
          exact Imp.pick (by repeat (first | exact .head | apply Take.tail)) (Imp.pick (by repeat (first | exact .head | apply Take.tail)) (Imp.pick (by repeat (first | exact .head | apply Take.tail)) (Imp.pick (by repeat (first | exact .head | apply Take.tail)) (Imp.pick (by repeat (first | exact .head | apply Take.tail)) (Imp.pick (by repeat (first | exact .head | apply Take.tail)) (Imp.pick (by repeat (first | exact .head | apply Take.tail)) (Imp.pick (by repeat (first | exact .head | apply Take.tail)) (Imp.nil _))))))))
        | false =>
          rw [if_neg (by rw [hb]; exact Bool.false_ne_true)] at hst
          rcases nrm_no x y z hx3 hy3 hz3 hb with ⟨q1, q2, q3⟩ | q
          · have E1 := eqv_co x y z x y z true (by simp)
            have E2 := eqv_co x y z 0 0 0 true (by rw [q1, q2, q3]; rfl)
            have k1 : nrmL x y z = [x, y, z] := by subst q1; subst q2; subst q3; rfl
            rw [k1] at hnm
            refine WC.seq fun K hK => ?_
            refine WC.region rfl ?_
            refine wG rfl rfl (g_lt rfl (.mk rfl rfl) (.mk rfl rfl) (decide_eq_true (by omega))) ?_
            refine WL.nil ?_
            (refine hK _ _ ?_; clear hK)
            refine WC.seq fun K hK => ?_
            refine WC.cond_true (.mk rfl rfl) ?_
            refine WC.skip ?_
            (refine hK _ _ ?_; clear hK)
            refine WC.seq fun K hK => ?_
            refine WC.block ?_
            refine WC.seq fun K hK => ?_
            refine WC.region rfl ?_
            refine wG rfl rfl (g_move rfl (.mk (v := .int _ _) rfl rfl)) ?_
            refine wG rfl rfl (g_assign rfl (.mk (v := .int _ _) rfl rfl)) ?_
            refine WL.nil ?_
            (refine hK _ _ ?_; clear hK)
            refine WC.seq fun K hK => ?_
            refine WC.region rfl ?_
            refine wG rfl rfl (g_move rfl (.mk (v := .int _ _) rfl rfl)) ?_
            refine wG rfl rfl (g_move rfl (.mk (v := .int _ _) rfl rfl)) ?_
            refine wG rfl rfl (g_move rfl (.mk (v := .int _ _) rfl rfl)) ?_
            refine wG rfl rfl (g_buildArr (cs := [_, _, _]) rfl rfl rfl rfl rfl (.cons (.mk (v := .int _ _) rfl rfl) (.cons (.mk (v := .int _ _) rfl rfl) (.cons (.mk (v := .int _ _) rfl rfl) .nil))) rfl rfl rfl) ?_
            refine WL.want rfl (WL1.alloc rfl rfl rfl rfl (fun b10 => ?_))
            refine WL.want rfl (WL1.storeAll rfl rfl (.mk rfl rfl) (.mk rfl rfl) rfl (all1 rfl) (by first | rfl | (simp [Blk.len]; done)) (.head) ?_)
            refine WL.nil ?_
            (refine hK _ _ ?_; clear hK)
            refine WC.seq fun K hK => ?_
            refine WC.quiet rfl (by kernel_rfl) (by decide +kernel) ?_
            refine WQ.want rfl (WQ1.give rfl (g_move rfl (.mk (v := cellPtr _ _) rfl rfl)) ?_)
            refine WQ.want rfl (WQ1.give rfl (g_loadA rfl (.mk rfl rfl) rfl rfl (rdr_pt (cs := [iv x, iv y, iv z]) (by first | ((repeat (first | exact .head _ | apply List.Mem.tail)); done) | fail) (fun j u h => by simpa using h))) ?_)
            refine WQ.want rfl (WQ1.callP rfl rfl rfl (.cons (.mk (v := cellPtr _ _) rfl rfl) (.cons (.mk (v := .agg _) rfl rfl) .nil)) (fun w hw => hnm w (cell_pt hw (by first | ((repeat (first | exact .head _ | apply List.Mem.tail)); done) | fail) rfl) (FldAt.of hw (by first | ((repeat (first | exact .head _ | apply List.Mem.tail)); done) | fail) (by first | ((repeat (first | exact .head _ | apply List.Mem.tail)); done) | fail) (by first | ((repeat (first | exact .head _ | apply List.Mem.tail)); done) | fail) (by first | ((repeat (first | exact .head _ | apply List.Mem.tail)); done) | fail) (by first | ((repeat (first | exact .head _ | apply List.Mem.tail)); done) | fail) e1 e2)) ?_)
            refine WQ.want rfl (WQ1.give rfl (g_loadA rfl (.mk rfl rfl) rfl rfl (rdr_pt (cs := [iv x, iv y, iv z]) (by first | ((repeat (first | exact .head _ | apply List.Mem.tail)); done) | fail) (fun j u h => by simpa using h))) ?_)
            refine WQ.want rfl (WQ1.give rfl (g_aeq (by kernel_rfl) rfl (.mk rfl rfl) (.mk rfl rfl) E1) ?_)
            refine WQ.want rfl (WQ1.give rfl (g_move rfl (.mk (v := .bool _) rfl rfl)) ?_)
            refine WQ.wantG rfl rfl rfl rfl (WQ1.give rfl (g_loadA rfl (.mk rfl rfl) rfl rfl (rdr_pt (cs := [iv x, iv y, iv z]) (by first | ((repeat (first | exact .head _ | apply List.Mem.tail)); done) | fail) (fun j u h => by simpa using h))) ?_)
            refine WQ.wantG rfl rfl rfl rfl (WQ1.give rfl (g_buildArr (cs := [_, _, _]) rfl rfl rfl rfl rfl .nil rfl rfl rfl) ?_)
            refine WQ.wantG rfl rfl rfl rfl (WQ1.give rfl (g_ane (by kernel_rfl) rfl (.mk rfl rfl) (.mk rfl rfl) E2) ?_)
            refine WQ.want rfl (WQ1.give rfl (g_pickT rfl (.mk rfl rfl) (.mk (v := .bool _) rfl rfl)) ?_)
            refine WQ.nil ?_
            (refine hK _ _ ?_; clear hK)
            refine WC.cond_false (.mk rfl rfl) ?_
            refine WC.skip ?_
            (refine hK _ _ ?_; clear hK)
            refine WC.region rfl ?_
            refine wG rfl rfl (g_add rfl (.mk rfl rfl) (.mk rfl rfl) (IntWalk.i64_in _ (by omega))) ?_
            refine wG rfl rfl (g_move rfl (.mk (v := .int _ _) rfl rfl)) ?_
            refine WL.nil ?_
            refine ⟨z + 1, (A, c), mD, (by repeat (first | with_reducible exact Out.refl _ _ | refine Out.set rfl ?_ | refine Out.put rfl ?_ | refine Out.sets rfl ?_ | refine Out.hav rfl ?_ | exact Out.refl _ _)), ⟨rfl, trivial⟩, ?_, by omega, by omega⟩
            dsimp only [plL]
            rw [show coL (9 * x + 3 * y + (z + 1)) = coL (9 * x + 3 * y + z) from hst]
            exact Imp.sub (by repeat (first | exact List.nil_sublist _ | exact List.Sublist.refl _ | apply List.Sublist.cons_cons | apply List.Sublist.cons))
          · rw [nrm_3 x y z] at hnm
            have E1 := eqv_co _ _ _ x y z false q
            generalize nth (nrmL x y z) 0 = n0 at *
            generalize nth (nrmL x y z) 1 = n1 at *
            generalize nth (nrmL x y z) 2 = n2 at *
            refine WC.seq fun K hK => ?_
            refine WC.region rfl ?_
            refine wG rfl rfl (g_lt rfl (.mk rfl rfl) (.mk rfl rfl) (decide_eq_true (by omega))) ?_
            refine WL.nil ?_
            (refine hK _ _ ?_; clear hK)
            refine WC.seq fun K hK => ?_
            refine WC.cond_true (.mk rfl rfl) ?_
            refine WC.skip ?_
            (refine hK _ _ ?_; clear hK)
            refine WC.seq fun K hK => ?_
            refine WC.block ?_
            refine WC.seq fun K hK => ?_
            refine WC.region rfl ?_
            refine wG rfl rfl (g_move rfl (.mk (v := .int _ _) rfl rfl)) ?_
            refine wG rfl rfl (g_assign rfl (.mk (v := .int _ _) rfl rfl)) ?_
            refine WL.nil ?_
            (refine hK _ _ ?_; clear hK)
            refine WC.seq fun K hK => ?_
            refine WC.region rfl ?_
            refine wG rfl rfl (g_move rfl (.mk (v := .int _ _) rfl rfl)) ?_
            refine wG rfl rfl (g_move rfl (.mk (v := .int _ _) rfl rfl)) ?_
            refine wG rfl rfl (g_move rfl (.mk (v := .int _ _) rfl rfl)) ?_
            refine wG rfl rfl (g_buildArr (cs := [_, _, _]) rfl rfl rfl rfl rfl (.cons (.mk (v := .int _ _) rfl rfl) (.cons (.mk (v := .int _ _) rfl rfl) (.cons (.mk (v := .int _ _) rfl rfl) .nil))) rfl rfl rfl) ?_
            refine WL.want rfl (WL1.alloc rfl rfl rfl rfl (fun b10 => ?_))
            refine WL.want rfl (WL1.storeAll rfl rfl (.mk rfl rfl) (.mk rfl rfl) rfl (all1 rfl) (by first | rfl | (simp [Blk.len]; done)) (.head) ?_)
            refine WL.nil ?_
            (refine hK _ _ ?_; clear hK)
            refine WC.seq fun K hK => ?_
            refine WC.quiet rfl (by kernel_rfl) (by decide +kernel) ?_
            refine WQ.want rfl (WQ1.give rfl (g_move rfl (.mk (v := cellPtr _ _) rfl rfl)) ?_)
            refine WQ.want rfl (WQ1.give rfl (g_loadA rfl (.mk rfl rfl) rfl rfl (rdr_pt (cs := [iv x, iv y, iv z]) (by first | ((repeat (first | exact .head _ | apply List.Mem.tail)); done) | fail) (fun j u h => by simpa using h))) ?_)
            refine WQ.want rfl (WQ1.callP rfl rfl rfl (.cons (.mk (v := cellPtr _ _) rfl rfl) (.cons (.mk (v := .agg _) rfl rfl) .nil)) (fun w hw => hnm w (cell_pt hw (by first | ((repeat (first | exact .head _ | apply List.Mem.tail)); done) | fail) rfl) (FldAt.of hw (by first | ((repeat (first | exact .head _ | apply List.Mem.tail)); done) | fail) (by first | ((repeat (first | exact .head _ | apply List.Mem.tail)); done) | fail) (by first | ((repeat (first | exact .head _ | apply List.Mem.tail)); done) | fail) (by first | ((repeat (first | exact .head _ | apply List.Mem.tail)); done) | fail) (by first | ((repeat (first | exact .head _ | apply List.Mem.tail)); done) | fail) e1 e2)) ?_)
            refine WQ.want rfl (WQ1.give rfl (g_loadA rfl (.mk rfl rfl) rfl rfl (rdr_pt (cs := [iv x, iv y, iv z]) (by first | ((repeat (first | exact .head _ | apply List.Mem.tail)); done) | fail) (fun j u h => by simpa using h))) ?_)
            refine WQ.want rfl (WQ1.give rfl (g_aeq (by kernel_rfl) rfl (.mk rfl rfl) (.mk rfl rfl) E1) ?_)
            refine WQ.want rfl (WQ1.give rfl (g_move rfl (.mk (v := .bool _) rfl rfl)) ?_)
            refine WQ.skipG rfl rfl rfl rfl rfl rfl ?_
            refine WQ.skipG rfl rfl rfl rfl rfl rfl ?_
            refine WQ.skipG rfl rfl rfl rfl rfl rfl ?_
            refine WQ.want rfl (WQ1.give rfl (g_pickF rfl (.mk rfl rfl) (.mk (v := .bool _) rfl rfl)) ?_)
            refine WQ.nil ?_
            (refine hK _ _ ?_; clear hK)
            refine WC.cond_false (.mk rfl rfl) ?_
            refine WC.skip ?_
            (refine hK _ _ ?_; clear hK)
            refine WC.region rfl ?_
            refine wG rfl rfl (g_add rfl (.mk rfl rfl) (.mk rfl rfl) (IntWalk.i64_in _ (by omega))) ?_
            refine wG rfl rfl (g_move rfl (.mk (v := .int _ _) rfl rfl)) ?_
            refine WL.nil ?_
            refine ⟨z + 1, (A, c), mD, (by repeat (first | with_reducible exact Out.refl _ _ | refine Out.set rfl ?_ | refine Out.put rfl ?_ | refine Out.sets rfl ?_ | refine Out.hav rfl ?_ | exact Out.refl _ _)), ⟨rfl, trivial⟩, ?_, by omega, by omega⟩
            dsimp only [plL]
            rw [show coL (9 * x + 3 * y + (z + 1)) = coL (9 * x + 3 * y + z) from hst]
            exact Imp.sub (by repeat (first | exact List.nil_sublist _ | exact List.Sublist.refl _ | apply List.Sublist.cons_cons | apply List.Sublist.cons))
      · obtain rfl : z = 3 := by omega
        refine WC.seq fun K hK => ?_
        refine WC.region rfl ?_
        refine wG rfl rfl (g_lt rfl (.mk rfl rfl) (.mk rfl rfl) (decide_eq_false (by omega))) ?_
        refine WL.nil ?_
        (refine hK _ _ ?_; clear hK)
        refine WC.seq fun K hK => ?_
        refine WC.cond_false (.mk rfl rfl) ?_
        refine WC.exit ?_
        (clear hK; refine hK _ _ ?_; clear hK)
        refine WC.region rfl ?_
        refine wG rfl rfl (g_add rfl (.mk rfl rfl) (.mk rfl rfl) (IntWalk.i64_in _ (by omega))) ?_
        refine wG rfl rfl (g_move rfl (.mk (v := .int _ _) rfl rfl)) ?_
        refine WL.nil ?_
        exact ⟨y + 1, (A, c), mD, (by repeat (first | with_reducible exact Out.refl _ _ | refine Out.set rfl ?_ | refine Out.put rfl ?_ | refine Out.sets rfl ?_ | refine Out.hav rfl ?_ | exact Out.refl _ _)), ⟨rfl, trivial⟩, by rw [show 9 * x + 3 * (y + 1) = 9 * x + 3 * y + 3 from by omega]; exact Imp.refl _, by omega, by omega⟩
    · obtain rfl : y = 3 := by omega
      refine WC.seq fun K hK => ?_
      refine WC.region rfl ?_
      refine wG rfl rfl (g_lt rfl (.mk rfl rfl) (.mk rfl rfl) (decide_eq_false (by omega))) ?_
      refine WL.nil ?_
      (refine hK _ _ ?_; clear hK)
      refine WC.seq fun K hK => ?_
      refine WC.cond_false (.mk rfl rfl) ?_
      refine WC.exit ?_
      (clear hK; refine hK _ _ ?_; clear hK)
      refine WC.region rfl ?_
      refine wG rfl rfl (g_add rfl (.mk rfl rfl) (.mk rfl rfl) (IntWalk.i64_in _ (by omega))) ?_
      refine wG rfl rfl (g_move rfl (.mk (v := .int _ _) rfl rfl)) ?_
      refine WL.nil ?_
      exact ⟨x + 1, (A, c), mD, (by repeat (first | with_reducible exact Out.refl _ _ | refine Out.set rfl ?_ | refine Out.put rfl ?_ | refine Out.sets rfl ?_ | refine Out.hav rfl ?_ | exact Out.refl _ _)), ⟨rfl, trivial⟩, by rw [show 9 * (x + 1) = 9 * x + 3 * 3 from by omega]; exact Imp.refl _, by omega, by omega⟩
  · obtain rfl : x = 2 := by omega
    refine WC.seq fun K hK => ?_
    refine WC.region rfl ?_
    refine wG rfl rfl (g_lt rfl (.mk rfl rfl) (.mk rfl rfl) (decide_eq_false (by omega))) ?_
    refine WL.nil ?_
    (refine hK _ _ ?_; clear hK)
    refine WC.seq fun K hK => ?_
    refine WC.cond_false (.mk rfl rfl) ?_
    refine WC.exit ?_
    (clear hK; refine hK _ _ ?_; clear hK)
    refine WC.seq fun K hK => ?_
    refine WC.region rfl ?_
    refine wG rfl rfl (g_move rfl (.mk (v := cellPtr _ _) rfl rfl)) ?_
    refine wG rfl rfl (g_assign rfl (.mk (v := cellPtr _ _) rfl rfl)) ?_
    refine wG rfl rfl (g_assign rfl (.mk (v := .int _ _) rfl rfl)) ?_
    refine WL.nil ?_
    (refine hK _ _ ?_; clear hK)
    refine WC.ret ?_
    exact fun w' hw' => ⟨_, _, rfl, hw', b28, bf, b26, (A, c), (S, cS), (Pp, cP), mD, sm, pr, e1, e2, rfl, rfl⟩
end Go.Proofs.Ytdcijljfgcjelaa
namespace Go.Proofs.Ytdcijljfgcjelaa
set_option maxRecDepth 20000
open Go.RowKit
attribute [local irreducible] Calls
theorem coP : coL 18 = coL 27 := by decide +kernel
def plF (P : List (List Nat)) (i j : Nat) : List Nat := (List.range j).filter fun q => Nat.beq (dS (nth P i) (nth P q) 3) 0
def plG : List (List Nat) := (List.range 13).map fun i => plF (coL 18) i 13
theorem plF_len (P : List (List Nat)) (i j : Nat) : (plF P i j).length ≤ j := by
  have := List.length_filter_le (fun q => Nat.beq (dS (nth P i) (nth P q) 3) 0) (List.range j)
  rw [List.length_range] at this
  exact this
theorem plF_in {P : List (List Nat)} {i j : Nat} (h : dS (nth P i) (nth P j) 3 = 0) : plF P i (j + 1) = plF P i j ++ [j] := by
  unfold plF
  rw [List.range_succ, List.filter_append, List.filter_cons, if_pos (by rw [h]; rfl)]; rfl
theorem plF_out {P : List (List Nat)} {i j : Nat} (h : dS (nth P i) (nth P j) 3 ≠ 0) : plF P i (j + 1) = plF P i j := by
  unfold plF
  rw [List.range_succ, List.filter_append, List.filter_cons, if_neg (by intro h'; exact h (Nat.eq_of_beq_eq_true h'))]; simp
theorem cc_sub {L : List (List Nat)} (h : ∀ r ∈ L, r.length = 3) {i : Nat} (hi : i < L.length) : ∀ j u, (ldv (nth L i))[j]? = some u → (cc L)[i * 3 + j]? = some u := fun j u hu => by
  have hl : (ldv (nth L i)).length = 3 := by rw [ldv_len, nth_eq hi]; exact h _ (List.getElem_mem hi)
  have hj : j < 3 := by
    have := (List.getElem?_eq_some_iff.1 hu).1
    omega
  rw [cc_get h hi hj]
  have := ldv_get (ld := nth L i) (k := j) (by rw [ldv_len] at hl; omega)
  rw [Nat.mul_one] at this
  rw [← hu, this]
theorem threeP {l : List Nat} (h : l.length = 3) : ∃ x y z, l = [x, y, z] := by
  match l, h with
  | [x, y, z], _ => exact ⟨x, y, z, rfl⟩
set_option maxHeartbeats 4000000 in
theorem proj3_n (w : World) : Calls Try.prog 40 #[iv 3] w fun e w' => ∃ u M, e = .returned u ∧ H w M w' ∧ ∃ A c rs, rs.map IRow.l = plG ∧ u = .tuple #[.agg #[iv 13, .slice A rs.length c], iv 0] ∧ M = dsgA A c rs := by
  have hl13 : (coL 18).length = 13 := by rw [coP]; exact co_len
  have hrow : ∀ r ∈ coL 18, r.length = 3 := by rw [coP]; exact co_rows
  have hle : ∀ i, i < 13 → ∀ q, q < 3 → nth (nth (coL 18) i) q < 3 := fun i hi q hq => by have := co_le hi hq; rw [← coP] at this; omega
  have hr3 : ∀ i, i < 13 → (nth (coL 18) i).length = 3 := fun i hi => hrow _ (by rw [nth_eq (by omega)]; exact List.getElem_mem _)
  have hrd := fun i (hi : i < 13) => cc_sub hrow (by rw [hl13]; exact hi : i < (coL 18).length)
  have hG : plG = (List.range 13).map fun i => plF (coL 18) i 13 := rfl
  rw [hG]
  clear hG
  have hfi := @plF_in (coL 18)
  have hfo := @plF_out (coL 18)
  have hop : ∀ w, Calls Try.prog 62 #[iv 3] w fun e w' => ∃ u M, e = .returned u ∧ H w M w' ∧ ∃ bs bf bm A c S cS Pp cP mD sm pr, ils sm = smT 3 ∧ ils pr = prT 3 ∧ u = .tuple #[bpv bs, iv 0] ∧ M = pt bs SPT [bpv bf, .slice A 13 c, .map (some bm)] :: vec A 13 c COT 3 (cc (coL 18)) :: mp Try.prog COT bm 13 mD :: pt bf FT [iv 3, iv 3, .slice S 3 cS, .slice Pp 3 cP] :: vec S 3 cS 32 1 (sm.map IRow.v) :: rowsI sm :: vec Pp 3 cP 32 1 (pr.map IRow.v) :: rowsI pr :: [] := fun w => by
    have := open3_n w
    unfold plL at this
    rw [hl13] at this
    exact this.mono fun e w' ⟨u, M, h1, h2, bs, bf, bm, ⟨A, c⟩, ⟨S, cS⟩, ⟨Pp, cP⟩, mD, sm, pr, h3, h4, h5, h6⟩ => ⟨u, M, h1, h2, bs, bf, bm, A, c, S, cS, Pp, cP, mD, sm, pr, h3, h4, h5, h6⟩
  generalize coL 18 = P at *
  refine calls_wcG (args := [iv 3]) [.cell 2 44, .tmp 3] [] Try.func40 rfl Try.ntmps40 rfl rfl (H.refl _) ?_
  refine WC.seq fun K hK => ?_
  refine WC.region rfl ?_
  refine WL.want rfl (WL1.alloc rfl rfl rfl rfl (fun b2 => ?_))
  refine wG rfl rfl (g_assign rfl (.mk (v := .int _ _) rfl rfl)) ?_
  refine WL.nil ?_
  (refine hK _ _ ?_; clear hK)
  refine WC.seq fun K hK => ?_
  refine WC.region rfl ?_
  refine wG rfl rfl (g_move rfl (.mk (v := .int _ _) rfl rfl)) ?_
  (refine WL.want rfl (WL1.callN rfl rfl rfl (.cons (.mk (v := .int _ _) rfl rfl) .nil) (fun w hw => hop w) ?_); rintro _ _ ⟨bs, bf, bm, A, c, S, cS, Pp, cP, mD, sm, pr, e1, e2, rfl, rfl⟩)
  refine wG rfl rfl (g_move rfl (.mk (v := .tuple _) rfl rfl)) ?_
  refine wG rfl rfl (g_extract rfl (.mk rfl rfl) rfl) ?_
  refine wG rfl rfl (g_extract rfl (.mk rfl rfl) rfl) ?_
  refine wG rfl rfl (g_assign rfl (.mk (v := cellPtr _ _) rfl rfl)) ?_
  refine wG rfl rfl (g_assign rfl (.mk (v := .int _ _) rfl rfl)) ?_
  refine WL.nil ?_
  (refine hK _ _ ?_; clear hK)
  refine WC.seq fun K hK => ?_
  refine WC.seq fun K hK => ?_
  refine WC.region rfl ?_
  refine wG rfl rfl (g_move rfl (.mk (v := .int _ _) rfl rfl)) ?_
  refine wG rfl rfl (g_ne rfl (.mk rfl rfl) (.mk rfl rfl) (decide_eq_false (by omega))) ?_
  refine WL.nil ?_
  (refine hK _ _ ?_; clear hK)
  refine WC.cond_false (.mk rfl rfl) ?_
  refine WC.skip ?_
  (refine hK _ _ ?_; clear hK)
  refine WC.seq fun K hK => ?_
  refine WC.region rfl ?_
  refine wG rfl rfl (g_move rfl (.mk (v := cellPtr _ _) rfl rfl)) ?_
  refine wG rfl rfl (g_nilCheck rfl (.mk rfl rfl) (fun _ _ => rfl)) ?_
  refine wG rfl rfl (g_fieldAddr (off := 1) rfl (.mk rfl rfl) rfl (fun _ _ => rfl)) ?_
  refine wG rfl rfl (g_load rfl (.mk rfl rfl) rfl (rd_pt (.head _) rfl)) ?_
  refine wG rfl rfl (g_len rfl (.mk rfl rfl) rfl) ?_
  refine wG rfl rfl (g_build (cs := [_, _]) rfl rfl rfl rfl (.cons (.mk (v := .int _ _) rfl rfl) .nil) rfl rfl rfl) ?_
  refine WL.want rfl (WL1.alloc rfl rfl rfl rfl (fun b6 => ?_))
  refine WL.want rfl (WL1.storeAll rfl rfl (.mk rfl rfl) (.mk rfl rfl) rfl (all1 rfl) (by first | rfl | (simp [Blk.len]; done)) (.head) ?_)
  refine WL.nil ?_
  (refine hK _ _ ?_; clear hK)
  refine WC.seq fun K hK => ?_
  refine WC.seq fun K hK => ?_
  refine WC.region rfl ?_
  refine wG rfl rfl (g_move rfl (.mk (v := cellPtr _ _) rfl rfl)) ?_
  refine wG rfl rfl (g_nilCheck rfl (.mk rfl rfl) (fun _ _ => rfl)) ?_
  refine wG rfl rfl (g_fieldAddr (off := 1) rfl (.mk rfl rfl) rfl (fun _ _ => rfl)) ?_
  refine wG rfl rfl (g_load rfl (.mk rfl rfl) rfl (rd_pt (.tail _ (.head _)) rfl)) ?_
  refine wG rfl rfl (g_len rfl (.mk rfl rfl) rfl) ?_
  refine wG rfl rfl (g_move rfl (.mk (v := .int _ _) rfl rfl)) ?_
  refine WL.nil ?_
  (refine hK _ _ ?_; clear hK)
  refine WC.block ?_
  refine WC.loopI3 (9223372032559812352) (fun (i : Nat) (G : Option Addr × Nat) (rs : List IRow) => [(32, iv i)]) (fun i G rs => pt b6 DT [iv 13, .slice G.1 i G.2] :: vec G.1 i G.2 32 1 (rs.map IRow.v) :: rowsI rs :: pt b2 DT [iv 0, .slice none 0 0] :: pt bs SPT [bpv bf, .slice A 13 c, .map (some bm)] :: vec A 13 c COT 3 (cc P) :: pt bf FT [iv 3, iv 3, .slice S 3 cS, .slice Pp 3 cP] :: vec S 3 cS 32 1 (sm.map IRow.v) :: rowsI sm :: vec Pp 3 cP 32 1 (pr.map IRow.v) :: rowsI pr :: []) (fun i _ rs => i ≤ 13 ∧ rs.length = i ∧ rs.map IRow.l = (List.range i).map fun i => plF P i 13) (fun i _ _ => 13 - i) 0 (none, 0) [] ⟨rfl, trivial⟩ ?_ ⟨by omega, rfl, rfl⟩ ?_
  · exact Imp.trans (Imp.trans (imp_nilv 32 1) rowsI_none) (Imp.pick (by repeat (first | exact .head | apply Take.tail)) (Imp.pick (by repeat (first | exact .head | apply Take.tail)) (Imp.pick (by repeat (first | exact .head | apply Take.tail)) (Imp.pick (by repeat (first | exact .head | apply Take.tail)) (Imp.pick (by repeat (first | exact .head | apply Take.tail)) (Imp.pick (by repeat (first | exact .head | apply Take.tail)) (Imp.pick (by repeat (first | exact .head | apply Take.tail)) (Imp.pick (by repeat (first | exact .head | apply Take.tail)) (Imp.pick (by repeat (first | exact .head | apply Take.tail)) (Imp.pick (by repeat (first | exact .head | apply Take.tail)) (Imp.pick (by repeat (first | exact .head | apply Take.tail)) (Imp.nil _))))))))))))
  rintro i ⟨G, cG⟩ rs U ⟨hi, hrl, hrs⟩
  dsimp only
  by_cases hlt : i < 13
  · have hri := hrd i hlt
    have hdt := fun j (hj : j < 13) {bs bf} (w : World) (h1 : w.cell? ⟨bs, 0, none⟩ = some (bpv bf)) (h2 : FldAt w bf) => dot_e (nth P i) (nth P j) (hr3 i hlt) (hr3 j hj) (hle i hlt) (hle j hj) h1 h2
    have hfii := @hfi i
    have hfoi := @hfo i
    have hp0 : plF P i 0 = [] := rfl
    obtain ⟨x0, y0, z0, hx⟩ := threeP (hr3 i hlt)
    rw [hx] at hri hdt hfii hfoi
    refine WC.seq fun K hK => ?_
    refine WC.region rfl ?_
    refine wG rfl rfl (g_lt rfl (.mk rfl rfl) (.mk rfl rfl) (decide_eq_true (by omega))) ?_
    refine WL.nil ?_
    (refine hK _ _ ?_; clear hK)
    refine WC.seq fun K hK => ?_
    refine WC.cond_true (.mk rfl rfl) ?_
    refine WC.skip ?_
    (refine hK _ _ ?_; clear hK)
    refine WC.seq fun K hK => ?_
    refine WC.block ?_
    refine WC.seq fun K hK => ?_
    refine WC.region rfl ?_
    refine wG rfl rfl (g_indexAddr (sz := 3) rfl (.mk rfl rfl) (.mk rfl rfl) rfl rfl rfl (by omega) (fun w hw => vec_some hw (.tail _ (.tail _ (.tail _ (.tail _ (.tail _ (.head _)))))) (by omega))) ?_
    refine wG rfl rfl (g_loadA rfl (.mk rfl rfl) rfl rfl (rdr_vec (cs := ldv [x0, y0, z0]) (by first | ((repeat (first | exact .head _ | apply List.Mem.tail)); done) | fail) (by omega) hri)) ?_
    refine WL.want rfl (WL1.alloc rfl rfl rfl rfl (fun b8 => ?_))
    refine WL.want rfl (WL1.storeAll rfl rfl (.mk rfl rfl) (.mk rfl rfl) rfl (all1 rfl) (by first | rfl | (simp [Blk.len]; done)) (.head) ?_)
    refine WL.nil ?_
    (refine hK _ _ ?_; clear hK)
    refine WC.seq fun K hK => ?_
    refine WC.region rfl ?_
    refine wG rfl rfl (g_assign rfl (.mk (v := .slice _ _ _) rfl rfl)) ?_
    refine WL.nil ?_
    (refine hK _ _ ?_; clear hK)
    refine WC.seq fun K hK => ?_
    refine WC.seq fun K hK => ?_
    refine WC.region rfl ?_
    refine wG rfl rfl (g_move rfl (.mk (v := cellPtr _ _) rfl rfl)) ?_
    refine wG rfl rfl (g_nilCheck rfl (.mk rfl rfl) (fun _ _ => rfl)) ?_
    refine wG rfl rfl (g_fieldAddr (off := 1) rfl (.mk rfl rfl) rfl (fun _ _ => rfl)) ?_
    refine wG rfl rfl (g_load rfl (.mk rfl rfl) rfl (rd_pt (.tail _ (.tail _ (.tail _ (.tail _ (.tail _ (.head _)))))) rfl)) ?_
    refine wG rfl rfl (g_len rfl (.mk rfl rfl) rfl) ?_
    refine wG rfl rfl (g_move rfl (.mk (v := .int _ _) rfl rfl)) ?_
    refine WL.nil ?_
    (refine hK _ _ ?_; clear hK)
    refine WC.block ?_
    refine WC.nilvec 3 1 ?_
    refine WC.loopI2 (72055395014675968) (fun (j : Nat) (X : Option Addr × Nat) => [(41, iv j), (9, .slice X.1 (plF P i j).length X.2)]) (fun j X => vec X.1 (plF P i j).length X.2 3 1 (ldv (plF P i j)) :: pt b8 COT (ldv [x0, y0, z0]) :: pt b6 DT [iv 13, .slice G i cG] :: vec G i cG 32 1 (rs.map IRow.v) :: rowsI rs :: pt b2 DT [iv 0, .slice none 0 0] :: pt bs SPT [bpv bf, .slice A 13 c, .map (some bm)] :: vec A 13 c COT 3 (cc P) :: pt bf FT [iv 3, iv 3, .slice S 3 cS, .slice Pp 3 cP] :: vec S 3 cS 32 1 (sm.map IRow.v) :: rowsI sm :: vec Pp 3 cP 32 1 (pr.map IRow.v) :: rowsI pr :: []) (fun j _ => j ≤ 13) (fun j _ => 13 - j) 0 (none, 0) ⟨rfl, rfl, trivial⟩ (by exact Imp.pick (by repeat (first | exact .head | apply Take.tail)) (Imp.pick (by repeat (first | exact .head | apply Take.tail)) (Imp.pick (by repeat (first | exact .head | apply Take.tail)) (Imp.pick (by repeat (first | exact .head | apply Take.tail)) (Imp.pick (by repeat (first | exact .head | apply Take.tail)) (Imp.pick (by repeat (first | exact .head | apply Take.tail)) (Imp.pick (by repeat (first | exact .head | apply Take.tail)) (Imp.pick (by repeat (first | exact .head | apply Take.tail)) (Imp.pick (by repeat (first | exact .head | apply Take.tail)) (Imp.pick (by repeat (first | exact .head | apply Take.tail)) (Imp.pick (by repeat (first | exact .head | apply Take.tail)) (Imp.pick (by repeat (first | exact .head | apply Take.tail)) (Imp.pick (by repeat (first | exact .head | apply Take.tail)) (Imp.nil _)))))))))))))) (by omega) ?_
    rintro j ⟨X, cX⟩ U2 hj
    dsimp only
    by_cases hltj : j < 13
    · have hrj := hrd j hltj
      have hdj := fun {bs bf} (w : World) (h1 : w.cell? ⟨bs, 0, none⟩ = some (bpv bf)) (h2 : FldAt w bf) => hdt j hltj w h1 h2
      have hfij := @hfii j
      have hfoj := @hfoi j
      have hpl := plF_len P i j
      obtain ⟨x1, y1, z1, hx1⟩ := threeP (hr3 j hltj)
      rw [hx1] at hrj hdj hfij hfoj
      by_cases h0 : dS [x0, y0, z0] [x1, y1, z1] 3 = 0
      · rw [h0] at hdj
        have hst := hfij h0
        have hl1 : (plF P i j ++ [j]).length = (plF P i j).length + 1 := by rw [List.length_append]; rfl
        have hld : ldv (plF P i j) ++ [iv j] = ldv (plF P i j ++ [j]) := by unfold ldv; rw [List.map_append]; rfl
        refine WC.seq fun K hK => ?_
        refine WC.region rfl ?_
        refine wG rfl rfl (g_lt rfl (.mk rfl rfl) (.mk rfl rfl) (decide_eq_true (by omega))) ?_
        refine WL.nil ?_
        (refine hK _ _ ?_; clear hK)
        refine WC.seq fun K hK => ?_
        refine WC.cond_true (.mk rfl rfl) ?_
        refine WC.skip ?_
        (refine hK _ _ ?_; clear hK)
        refine WC.seq fun K hK => ?_
        refine WC.block ?_
        refine WC.seq fun K hK => ?_
        refine WC.region rfl ?_
        refine wG rfl rfl (g_move rfl (.mk (v := .int _ _) rfl rfl)) ?_
        refine wG rfl rfl (g_indexAddr (sz := 3) rfl (.mk rfl rfl) (.mk rfl rfl) rfl rfl rfl (by omega) (fun w hw => vec_some hw (.tail _ (.tail _ (.tail _ (.tail _ (.tail _ (.tail _ (.tail _ (.head _)))))))) (by omega))) ?_
        refine wG rfl rfl (g_loadA rfl (.mk rfl rfl) rfl rfl (rdr_vec (cs := ldv [x1, y1, z1]) (by first | ((repeat (first | exact .head _ | apply List.Mem.tail)); done) | fail) (by omega) hrj)) ?_
        refine WL.want rfl (WL1.alloc rfl rfl rfl rfl (fun b11 => ?_))
        refine wG rfl rfl (g_assign rfl (.mk (v := .int _ _) rfl rfl)) ?_
        refine WL.want rfl (WL1.storeAll rfl rfl (.mk rfl rfl) (.mk rfl rfl) rfl (all1 rfl) (by first | rfl | (simp [Blk.len]; done)) (.head) ?_)
        refine WL.nil ?_
        (refine hK _ _ ?_; clear hK)
        refine WC.seq fun K hK => ?_
        refine WC.region rfl ?_
        refine wG rfl rfl (g_move rfl (.mk (v := cellPtr _ _) rfl rfl)) ?_
        refine wG rfl rfl (g_loadA rfl (.mk rfl rfl) rfl rfl (rdr_pt (cs := ldv [x0, y0, z0]) (by first | ((repeat (first | exact .head _ | apply List.Mem.tail)); done) | fail) (fun j u h => by simpa using h))) ?_
        refine wG rfl rfl (g_loadA rfl (.mk rfl rfl) rfl rfl (rdr_pt (cs := ldv [x1, y1, z1]) (by first | ((repeat (first | exact .head _ | apply List.Mem.tail)); done) | fail) (fun j u h => by simpa using h))) ?_
        refine WL.want rfl (WL1.callP rfl rfl rfl (.cons (.mk (v := cellPtr _ _) rfl rfl) (.cons (.mk (v := .agg _) rfl rfl) (.cons (.mk (v := .agg _) rfl rfl) .nil))) (fun w hw => hdj w (cell_pt hw (by first | ((repeat (first | exact .head _ | apply List.Mem.tail)); done) | fail) rfl) (FldAt.of hw (by first | ((repeat (first | exact .head _ | apply List.Mem.tail)); done) | fail) (by first | ((repeat (first | exact .head _ | apply List.Mem.tail)); done) | fail) (by first | ((repeat (first | exact .head _ | apply List.Mem.tail)); done) | fail) (by first | ((repeat (first | exact .head _ | apply List.Mem.tail)); done) | fail) (by first | ((repeat (first | exact .head _ | apply List.Mem.tail)); done) | fail) e1 e2)) ?_)
        refine wG rfl rfl (g_eq rfl (.mk rfl rfl) (.mk rfl rfl) (decide_eq_true (by omega))) ?_
        refine WL.nil ?_
        (refine hK _ _ ?_; clear hK)
        refine WC.cond_true (.mk rfl rfl) ?_
        refine WC.region rfl ?_
        refine wG rfl rfl (g_move rfl (.mk (v := .slice _ _ _) rfl rfl)) ?_
        refine wG rfl rfl (g_move rfl (.mk (v := .int _ _) rfl rfl)) ?_
        refine WL.want rfl (WL1.lit (cs := [_]) elI rfl rfl rfl (.cons (.mk (v := .int _ _) rfl rfl) .nil) rfl (by first | (simp [Value.cells]; done) | fail) rfl rfl (fun b53 => ?_))
        refine WL.want rfl (WL1.append elI rfl rfl (.mk rfl rfl) (.mk rfl rfl) (.tail (.tail (.head))) (fun w hw => Sl.of_vec hw (.head _)) (all1 rfl) (by unfold maxLen; omega) (by omega) (fun A54 c54 => ?_))
        refine wG rfl rfl (g_assign rfl (.mk (v := .slice _ _ _) rfl rfl)) ?_
        refine WL.nil ?_
        (refine hK _ _ ?_; clear hK)
        refine WC.region rfl ?_
        refine wG rfl rfl (g_add rfl (.mk rfl rfl) (.mk rfl rfl) (IntWalk.i64_in _ (by omega))) ?_
        refine wG rfl rfl (g_move rfl (.mk (v := .int _ _) rfl rfl)) ?_
        refine WL.nil ?_
        refine ⟨j + 1, (A54, c54), (by repeat (first | with_reducible exact Out.refl _ _ | refine Out.set rfl ?_ | refine Out.put rfl ?_ | refine Out.sets rfl ?_ | refine Out.hav rfl ?_ | exact Out.refl _ _)), ⟨rfl, by show Value.slice A54 _ c54 = Value.slice A54 (plF P i (j + 1)).length c54; rw [hst, hl1], trivial⟩, ?_, by omega, by omega⟩
        dsimp only
        rw [hst, hl1, ← hld]
        exact Imp.pick (by repeat (first | exact .head | apply Take.tail)) (Imp.pick (by repeat (first | exact .head | apply Take.tail)) (Imp.pick (by repeat (first | exact .head | apply Take.tail)) (Imp.pick (by repeat (first | exact .head | apply Take.tail)) (Imp.pick (by repeat (first | exact .head | apply Take.tail)) (Imp.pick (by repeat (first | exact .head | apply Take.tail)) (Imp.pick (by repeat (first | exact .head | apply Take.tail)) (Imp.pick (by repeat (first | exact .head | apply Take.tail)) (Imp.pick (by repeat (first | exact .head | apply Take.tail)) (Imp.pick (by repeat (first | exact .head | apply Take.tail)) (Imp.pick (by repeat (first | exact .head | apply Take.tail)) (Imp.pick (by repeat (first | exact .head | apply Take.tail)) (Imp.pick (by repeat (first | exact .head | apply Take.tail)) (Imp.nil _)))))))))))))
      · have hst := hfoj h0
        generalize dS [x0, y0, z0] [x1, y1, z1] 3 = zz at hdj h0
        refine WC.seq fun K hK => ?_
        refine WC.region rfl ?_
        refine wG rfl rfl (g_lt rfl (.mk rfl rfl) (.mk rfl rfl) (decide_eq_true (by omega))) ?_
        refine WL.nil ?_
        (refine hK _ _ ?_; clear hK)
        refine WC.seq fun K hK => ?_
        refine WC.cond_true (.mk rfl rfl) ?_
        refine WC.skip ?_
        (refine hK _ _ ?_; clear hK)
        refine WC.seq fun K hK => ?_
        refine WC.block ?_
        refine WC.seq fun K hK => ?_
        refine WC.region rfl ?_
        refine wG rfl rfl (g_move rfl (.mk (v := .int _ _) rfl rfl)) ?_
        refine wG rfl rfl (g_indexAddr (sz := 3) rfl (.mk rfl rfl) (.mk rfl rfl) rfl rfl rfl (by omega) (fun w hw => vec_some hw (.tail _ (.tail _ (.tail _ (.tail _ (.tail _ (.tail _ (.tail _ (.head _)))))))) (by omega))) ?_
        refine wG rfl rfl (g_loadA rfl (.mk rfl rfl) rfl rfl (rdr_vec (cs := ldv [x1, y1, z1]) (by first | ((repeat (first | exact .head _ | apply List.Mem.tail)); done) | fail) (by omega) hrj)) ?_
        refine WL.want rfl (WL1.alloc rfl rfl rfl rfl (fun b11 => ?_))
        refine wG rfl rfl (g_assign rfl (.mk (v := .int _ _) rfl rfl)) ?_
        refine WL.want rfl (WL1.storeAll rfl rfl (.mk rfl rfl) (.mk rfl rfl) rfl (all1 rfl) (by first | rfl | (simp [Blk.len]; done)) (.head) ?_)
        refine WL.nil ?_
        (refine hK _ _ ?_; clear hK)
        refine WC.seq fun K hK => ?_
        refine WC.region rfl ?_
        refine wG rfl rfl (g_move rfl (.mk (v := cellPtr _ _) rfl rfl)) ?_
        refine wG rfl rfl (g_loadA rfl (.mk rfl rfl) rfl rfl (rdr_pt (cs := ldv [x0, y0, z0]) (by first | ((repeat (first | exact .head _ | apply List.Mem.tail)); done) | fail) (fun j u h => by simpa using h))) ?_
        refine wG rfl rfl (g_loadA rfl (.mk rfl rfl) rfl rfl (rdr_pt (cs := ldv [x1, y1, z1]) (by first | ((repeat (first | exact .head _ | apply List.Mem.tail)); done) | fail) (fun j u h => by simpa using h))) ?_
        refine WL.want rfl (WL1.callP rfl rfl rfl (.cons (.mk (v := cellPtr _ _) rfl rfl) (.cons (.mk (v := .agg _) rfl rfl) (.cons (.mk (v := .agg _) rfl rfl) .nil))) (fun w hw => hdj w (cell_pt hw (by first | ((repeat (first | exact .head _ | apply List.Mem.tail)); done) | fail) rfl) (FldAt.of hw (by first | ((repeat (first | exact .head _ | apply List.Mem.tail)); done) | fail) (by first | ((repeat (first | exact .head _ | apply List.Mem.tail)); done) | fail) (by first | ((repeat (first | exact .head _ | apply List.Mem.tail)); done) | fail) (by first | ((repeat (first | exact .head _ | apply List.Mem.tail)); done) | fail) (by first | ((repeat (first | exact .head _ | apply List.Mem.tail)); done) | fail) e1 e2)) ?_)
        refine wG rfl rfl (g_eq rfl (.mk rfl rfl) (.mk rfl rfl) (decide_eq_false (by omega))) ?_
        refine WL.nil ?_
        (refine hK _ _ ?_; clear hK)
        refine WC.cond_false (.mk rfl rfl) ?_
        refine WC.skip ?_
        (refine hK _ _ ?_; clear hK)
        refine WC.region rfl ?_
        refine wG rfl rfl (g_add rfl (.mk rfl rfl) (.mk rfl rfl) (IntWalk.i64_in _ (by omega))) ?_
        refine wG rfl rfl (g_move rfl (.mk (v := .int _ _) rfl rfl)) ?_
        refine WL.nil ?_
        refine ⟨j + 1, (X, cX), (by repeat (first | with_reducible exact Out.refl _ _ | refine Out.set rfl ?_ | refine Out.put rfl ?_ | refine Out.sets rfl ?_ | refine Out.hav rfl ?_ | exact Out.refl _ _)), ⟨rfl, by show Value.slice X _ cX = Value.slice X (plF P i (j + 1)).length cX; rw [hst], trivial⟩, ?_, by omega, by omega⟩
        dsimp only
        rw [hst]
        exact Imp.pick (by repeat (first | exact .head | apply Take.tail)) (Imp.pick (by repeat (first | exact .head | apply Take.tail)) (Imp.pick (by repeat (first | exact .head | apply Take.tail)) (Imp.pick (by repeat (first | exact .head | apply Take.tail)) (Imp.pick (by repeat (first | exact .head | apply Take.tail)) (Imp.pick (by repeat (first | exact .head | apply Take.tail)) (Imp.pick (by repeat (first | exact .head | apply Take.tail)) (Imp.pick (by repeat (first | exact .head | apply Take.tail)) (Imp.pick (by repeat (first | exact .head | apply Take.tail)) (Imp.pick (by repeat (first | exact .head | apply Take.tail)) (Imp.pick (by repeat (first | exact .head | apply Take.tail)) (Imp.pick (by repeat (first | exact .head | apply Take.tail)) (Imp.pick (by repeat (first | exact .head | apply Take.tail)) (Imp.nil _)))))))))))))
    · obtain rfl : j = 13 := by omega
      refine WC.seq fun K hK => ?_
      refine WC.region rfl ?_
      refine wG rfl rfl (g_lt rfl (.mk rfl rfl) (.mk rfl rfl) (decide_eq_false (by omega))) ?_
      refine WL.nil ?_
      (refine hK _ _ ?_; clear hK)
      refine WC.seq fun K hK => ?_
      refine WC.cond_false (.mk rfl rfl) ?_
      refine WC.exit ?_
      (clear hK; refine hK _ _ ?_; clear hK)
      refine WC.region rfl ?_
      refine wG rfl rfl (g_fieldAddr (off := 1) rfl (.mk rfl rfl) rfl (fun _ _ => rfl)) ?_
      refine wG rfl rfl (g_load rfl (.mk rfl rfl) rfl (rd_pt (.tail _ (.tail _ (.head _))) rfl)) ?_
      refine wG rfl rfl (g_move rfl (.mk (v := .slice _ _ _) rfl rfl)) ?_
      refine WL.want rfl (WL1.lit (cs := [_]) elRI rfl rfl rfl (.cons (.mk (v := .slice _ _ _) rfl rfl) .nil) rfl (by first | (simp [Value.cells]; done) | fail) rfl rfl (fun b59 => ?_))
      refine WL.want rfl (WL1.append elRI rfl rfl (.mk rfl rfl) (.mk rfl rfl) (.tail (.tail (.tail (.tail (.head))))) (fun w hw => Sl.of_vec hw (.head _)) (all1 rfl) (by unfold maxLen; omega) (by omega) (fun A60 c60 => ?_))
      refine wG rfl rfl (g_fieldAddr (off := 1) rfl (.mk rfl rfl) rfl (fun _ _ => rfl)) ?_
      refine WL.want rfl (WL1.store1 rfl rfl (.mk rfl rfl) (.mk (v := .slice _ _ _) rfl rfl) rfl rfl (Nat.le_of_ble_eq_true rfl) (.tail (.tail (.tail (.tail (.head))))) ?_)
      refine WL.nil ?_
      (refine hK _ _ ?_; clear hK)
      refine WC.region rfl ?_
      refine wG rfl rfl (g_add rfl (.mk rfl rfl) (.mk rfl rfl) (IntWalk.i64_in _ (by omega))) ?_
      refine wG rfl rfl (g_move rfl (.mk (v := .int _ _) rfl rfl)) ?_
      refine WL.nil ?_
      have o1 : (⟨X, cX, plF P i 13⟩ : IRow).own = vec X (plF P i 13).length cX 3 1 (ldv (plF P i 13)) := rfl
      have v1 : (rs ++ [(⟨X, cX, plF P i 13⟩ : IRow)]).map IRow.v = rs.map IRow.v ++ [.slice X (plF P i 13).length cX] := by rw [List.map_append]; rfl
      refine ⟨i + 1, (A60, c60), rs ++ [(⟨X, cX, plF P i 13⟩ : IRow)], (by repeat (first | with_reducible exact Out.refl _ _ | refine Out.set rfl ?_ | refine Out.put rfl ?_ | refine Out.sets rfl ?_ | refine Out.hav rfl ?_ | exact Out.refl _ _)), ⟨rfl, trivial⟩, ?_, ⟨by omega, by rw [List.length_append, hrl]; rfl, ?_⟩, by omega⟩
      · dsimp only
        rw [v1]
        refine Imp.trans (M := (⟨X, cX, plF P i 13⟩ : IRow).own :: rowsI rs :: pt b6 DT [iv 13, .slice A60 (i + 1) c60] :: vec A60 (i + 1) c60 32 1 (rs.map IRow.v ++ [.slice X (plF P i 13).length cX]) :: pt b2 DT [iv 0, .slice none 0 0] :: pt bs SPT [bpv bf, .slice A 13 c, .map (some bm)] :: vec A 13 c COT 3 (cc P) :: pt bf FT [iv 3, iv 3, .slice S 3 cS, .slice Pp 3 cP] :: vec S 3 cS 32 1 (sm.map IRow.v) :: rowsI sm :: vec Pp 3 cP 32 1 (pr.map IRow.v) :: rowsI pr :: []) ?_ (Imp.trans rowsI_new ?_)
        · rw [o1]
          exact Imp.pick (by repeat (first | exact .head | apply Take.tail)) (Imp.pick (by repeat (first | exact .head | apply Take.tail)) (Imp.pick (by repeat (first | exact .head | apply Take.tail)) (Imp.pick (by repeat (first | exact .head | apply Take.tail)) (Imp.pick (by repeat (first | exact .head | apply Take.tail)) (Imp.pick (by repeat (first | exact .head | apply Take.tail)) (Imp.pick (by repeat (first | exact .head | apply Take.tail)) (Imp.pick (by repeat (first | exact .head | apply Take.tail)) (Imp.pick (by repeat (first | exact .head | apply Take.tail)) (Imp.pick (by repeat (first | exact .head | apply Take.tail)) (Imp.pick (by repeat (first | exact .head | apply Take.tail)) (Imp.pick (by repeat (first | exact .head | apply Take.tail)) (Imp.nil _))))))))))))
        · exact Imp.pick (by repeat (first | exact .head | apply Take.tail)) (Imp.pick (by repeat (first | exact .head | apply Take.tail)) (Imp.pick (by repeat (first | exact .head | apply Take.tail)) (Imp.pick (by repeat (first | exact .head | apply Take.tail)) (Imp.pick (by repeat (first | exact .head | apply Take.tail)) (Imp.pick (by repeat (first | exact .head | apply Take.tail)) (Imp.pick (by repeat (first | exact .head | apply Take.tail)) (Imp.pick (by repeat (first | exact .head | apply Take.tail)) (Imp.pick (by repeat (first | exact .head | apply Take.tail)) (Imp.pick (by repeat (first | exact .head | apply Take.tail)) (Imp.pick (by repeat (first | exact .head | apply Take.tail)) (Imp.nil _)))))))))))
      · rw [List.map_append, hrs, List.range_succ, List.map_append]; rfl
  · obtain rfl : i = 13 := by omega
    refine WC.seq fun K hK => ?_
    refine WC.region rfl ?_
    refine wG rfl rfl (g_lt rfl (.mk rfl rfl) (.mk rfl rfl) (decide_eq_false (by omega))) ?_
    refine WL.nil ?_
    (refine hK _ _ ?_; clear hK)
    refine WC.seq fun K hK => ?_
    refine WC.cond_false (.mk rfl rfl) ?_
    refine WC.exit ?_
    (clear hK; refine hK _ _ ?_; clear hK)
    refine WC.seq fun K hK => ?_
    refine WC.region rfl ?_
    refine wG rfl rfl (g_loadA rfl (.mk rfl rfl) rfl rfl (rdr_pt (cs := [iv 13, .slice G 13 cG]) (by first | ((repeat (first | exact .head _ | apply List.Mem.tail)); done) | fail) (fun j u h => by simpa using h))) ?_
    refine WL.want rfl (WL1.storeAll rfl rfl (.mk rfl rfl) (.mk rfl rfl) rfl (all1 rfl) (by first | rfl | (simp [Blk.len]; done)) (.tail (.tail (.tail (.head)))) ?_)
    refine wG rfl rfl (g_assign rfl (.mk (v := .int _ _) rfl rfl)) ?_
    refine WL.nil ?_
    (refine hK _ _ ?_; clear hK)
    refine WC.ret ?_
    exact ⟨_, .cell rfl rfl rfl rfl (by first | ((repeat (first | exact .head _ | apply List.Mem.tail)); done) | fail) (.tmp rfl rfl .nil), fun w' hw' => ⟨_, dsgA G cG rs, rfl, (by rw [dsgA, hrl]; exact (Imp.pick (by repeat (first | exact .head | apply Take.tail)) (Imp.pick (by repeat (first | exact .head | apply Take.tail)) (Imp.nil _))).h hw'), G, cG, rs, hrs, by rw [hrl]; rfl, rfl⟩⟩
end Go.Proofs.Ytdcijljfgcjelaa
namespace Go.Proofs.Ytdcijljfgcjelaa
set_option maxRecDepth 20000
open Go.RowKit
attribute [local irreducible] Calls
set_option maxHeartbeats 2000000 in
theorem choose_13 (w : World) : Calls Try.prog 21 #[iv 13, iv 4] w fun e w' => ∃ u M, e = .returned u ∧ H w M w' ∧ ∃ A c rs, ils rs = plG ∧ u = .tuple #[dsgV 13 A c rs, iv 0] ∧ M = dsgA A c rs := by
  have hpj : ∀ w, Calls Try.prog 40 ([iv (4 - 1)] ++ []).toArray w fun e w' => ∃ u M, e = .returned u ∧ H w M w' ∧ ∃ A c rs, rs.map IRow.l = plG ∧ u = .tuple #[.agg #[iv 13, .slice A rs.length c], iv 0] ∧ M = dsgA A c rs := fun w => proj3_n w
  refine calls_wcG (args := [iv 13, iv 4]) [.cell 4 44, .tmp 5] [] Try.func21 rfl Try.ntmps21 rfl rfl (H.refl _) ?_
  refine WC.seq fun K hK => ?_
  refine WC.region rfl ?_
  refine WL.want rfl (WL1.alloc rfl rfl rfl rfl (fun b4 => ?_))
  refine wG rfl rfl (g_assign rfl (.mk (v := .int _ _) rfl rfl)) ?_
  refine WL.nil ?_
  (refine hK _ _ ?_; clear hK)
  refine WC.seq fun K hK => ?_
  refine WC.seq fun K hK => ?_
  refine WC.region rfl ?_
  refine wG rfl rfl (g_move rfl (.mk (v := .int _ _) rfl rfl)) ?_
  refine wG rfl rfl (g_lt rfl (.mk rfl rfl) (.mk rfl rfl) (decide_eq_false (by omega))) ?_
  refine wG rfl rfl (g_move rfl (.mk (v := .bool _) rfl rfl)) ?_
  refine WL.wantG rfl rfl rfl rfl (WL1.give rfl (g_move rfl (.mk (v := .int _ _) rfl rfl)) ?_)
  refine WL.wantG rfl rfl rfl rfl (WL1.give rfl (g_gt rfl (.mk rfl rfl) (.mk rfl rfl) (decide_eq_false (by omega))) ?_)
  refine wG rfl rfl (g_pickF rfl (.mk rfl rfl) (.mk (v := .bool _) rfl rfl)) ?_
  refine wG rfl rfl (g_move rfl (.mk (v := .bool _) rfl rfl)) ?_
  refine WL.wantG rfl rfl rfl rfl (WL1.give rfl (g_move rfl (.mk (v := .int _ _) rfl rfl)) ?_)
  refine WL.wantG rfl rfl rfl rfl (WL1.give rfl (g_move rfl (.mk (v := .int _ _) rfl rfl)) ?_)
  refine WL.wantG rfl rfl rfl rfl (WL1.give rfl (g_lt rfl (.mk rfl rfl) (.mk rfl rfl) (decide_eq_false (by omega))) ?_)
  refine wG rfl rfl (g_pickF rfl (.mk rfl rfl) (.mk (v := .bool _) rfl rfl)) ?_
  refine wG rfl rfl (g_move rfl (.mk (v := .bool _) rfl rfl)) ?_
  refine WL.wantG rfl rfl rfl rfl (WL1.give rfl (g_move rfl (.mk (v := .int _ _) rfl rfl)) ?_)
  refine WL.wantG rfl rfl rfl rfl (WL1.give rfl (g_gt rfl (.mk rfl rfl) (.mk rfl rfl) (decide_eq_false (by omega))) ?_)
  refine wG rfl rfl (g_pickF rfl (.mk rfl rfl) (.mk (v := .bool _) rfl rfl)) ?_
  refine WL.nil ?_
  (refine hK _ _ ?_; clear hK)
  refine WC.cond_false (.mk rfl rfl) ?_
  refine WC.skip ?_
  (refine hK _ _ ?_; clear hK)
  refine WC.seq fun K hK => ?_
  refine WC.region rfl ?_
  refine wG rfl rfl (g_move rfl (.mk (v := .int _ _) rfl rfl)) ?_
  refine wG rfl rfl (g_move rfl (.mk (v := .int _ _) rfl rfl)) ?_
  refine wG rfl rfl (g_mul rfl (.mk rfl rfl) (.mk rfl rfl) (IntWalk.i64_in _ (by omega))) ?_
  refine wG rfl rfl (g_move rfl (.mk (v := .int _ _) rfl rfl)) ?_
  refine wG rfl rfl (g_sub rfl (.mk rfl rfl) (.mk rfl rfl) (IntWalk.i64_in _ (by omega))) ?_
  refine wG rfl rfl (g_add rfl (.mk rfl rfl) (.mk rfl rfl) (IntWalk.i64_in _ (by omega))) ?_
  refine wG rfl rfl (g_move rfl (.mk (v := .int _ _) rfl rfl)) ?_
  refine wG rfl rfl (g_sub rfl (.mk rfl rfl) (.mk rfl rfl) (IntWalk.i64_in _ (by omega))) ?_
  refine wG rfl rfl (g_build (cs := [_, _, _]) rfl rfl rfl rfl (.cons (.mk (v := .int _ _) rfl rfl) (.cons (.mk (v := .int _ _) rfl rfl) (.cons (.mk (v := .func _ _ _) rfl rfl) .nil))) rfl rfl rfl) ?_
  refine wG rfl rfl (g_move rfl (.mk (v := .int _ _) rfl rfl)) ?_
  refine wG rfl rfl (g_move rfl (.mk (v := .int _ _) rfl rfl)) ?_
  refine wG rfl rfl (g_mul rfl (.mk rfl rfl) (.mk rfl rfl) (IntWalk.i64_in _ (by omega))) ?_
  refine wG rfl rfl (g_move rfl (.mk (v := .int _ _) rfl rfl)) ?_
  refine wG rfl rfl (g_build (cs := [_, _, _]) rfl rfl rfl rfl (.cons (.mk (v := .int _ _) rfl rfl) (.cons (.mk (v := .int _ _) rfl rfl) (.cons (.mk (v := .func _ _ _) rfl rfl) .nil))) rfl rfl rfl) ?_
  refine WL.want rfl (WL1.lit elKd rfl rfl rfl (.cons (.mk (v := .agg _) rfl rfl) (.cons (.mk (v := .agg _) rfl rfl) .nil)) rfl (by intro v hv; simp only [List.mem_cons, List.not_mem_nil, or_false] at hv; rcases hv with rfl | rfl <;> rfl) rfl rfl (fun b41 => ?_))
  refine wG rfl rfl (g_assign rfl (.mk (v := .slice _ _ _) rfl rfl)) ?_
  refine WL.nil ?_
  (refine hK _ _ ?_; clear hK)
  refine WC.seq fun K hK => ?_
  refine WC.seq fun K hK => ?_
  refine WC.region rfl ?_
  refine wG rfl rfl (g_move rfl (.mk (v := .slice _ _ _) rfl rfl)) ?_
  refine wG rfl rfl (g_len rfl (.mk rfl rfl) rfl) ?_
  refine wG rfl rfl (g_move rfl (.mk (v := .int _ _) rfl rfl)) ?_
  refine WL.nil ?_
  (refine hK _ _ ?_; clear hK)
  refine WC.block ?_
  refine WC.imp (M := [vec (some ⟨b41, 0, none⟩) 2 2 KT 3 [iv (4 * 4 - 4 + 1), iv (4 - 1), .func (.func 40) #[] #[], iv (4 * 4), iv 4, .func (.func 41) #[] #[]], pt b4 DT [iv 0, .slice none 0 0]]) (Imp.refl _) ?_
  refine WC.loop (18446726481523509024) (fun i : Nat => [(44, iv i)]) (fun _ => [vec (some ⟨b41, 0, none⟩) 2 2 KT 3 [iv (4 * 4 - 4 + 1), iv (4 - 1), .func (.func 40) #[] #[], iv (4 * 4), iv 4, .func (.func 41) #[] #[]], pt b4 DT [iv 0, .slice none 0 0]]) (fun i => i = 0) (fun i => 2 - i) 0 ⟨rfl, trivial⟩ (.refl _) rfl ?_
  rintro i U rfl
  have g0 : ∀ j u, ([iv (4 * 4 - 4 + 1), iv (4 - 1), .func (.func 40) #[] #[]] : List Value)[j]? = some u → ([iv (4 * 4 - 4 + 1), iv (4 - 1), .func (.func 40) #[] #[], iv (4 * 4), iv 4, .func (.func 41) #[] #[]] : List Value)[0 * 3 + j]? = some u := fun j u h => pre_get (es := [iv (4 * 4), iv 4, .func (.func 41) #[] #[]]) (by omega) h
  refine WC.seq fun K hK => ?_
  refine WC.region rfl ?_
  refine wG rfl rfl (g_lt rfl (.mk rfl rfl) (.mk rfl rfl) (decide_eq_true (by omega))) ?_
  refine WL.nil ?_
  (refine hK _ _ ?_; clear hK)
  refine WC.seq fun K hK => ?_
  refine WC.cond_true (.mk rfl rfl) ?_
  refine WC.skip ?_
  (refine hK _ _ ?_; clear hK)
  refine WC.seq fun K hK => ?_
  refine WC.block ?_
  refine WC.seq fun K hK => ?_
  refine WC.region rfl ?_
  refine wG rfl rfl (g_indexAddr (sz := 3) rfl (.mk rfl rfl) (.mk rfl rfl) rfl rfl (show _ = ((0 : Nat) : Int) from rfl) (by omega) (fun _ _ => rfl)) ?_
  refine wG rfl rfl (g_loadA rfl (.mk rfl rfl) rfl rfl (rdr_vec (cs := [iv (4 * 4 - 4 + 1), iv (4 - 1), .func (.func 40) #[] #[]]) (by first | ((repeat (first | exact .head _ | apply List.Mem.tail)); done) | fail) (by omega) g0)) ?_
  refine WL.want rfl (WL1.alloc rfl rfl rfl rfl (fun b8 => ?_))
  refine WL.want rfl (WL1.storeAll rfl rfl (.mk rfl rfl) (.mk rfl rfl) rfl (all1 rfl) (by first | rfl | (simp [Blk.len]; done)) (.head) ?_)
  refine WL.nil ?_
  (refine hK _ _ ?_; clear hK)
  refine WC.seq fun K hK => ?_
  refine WC.seq fun K hK => ?_
  refine WC.region rfl ?_
  refine wG rfl rfl (g_fieldAddr (off := 0) rfl (.mk rfl rfl) rfl (fun _ _ => rfl)) ?_
  refine wG rfl rfl (g_load rfl (.mk rfl rfl) rfl (rd_pt (.head _) rfl)) ?_
  refine wG rfl rfl (g_move rfl (.mk (v := .int _ _) rfl rfl)) ?_
  refine wG rfl rfl (g_ne rfl (.mk rfl rfl) (.mk rfl rfl) (decide_eq_false (by omega))) ?_
  refine WL.nil ?_
  (refine hK _ _ ?_; clear hK)
  refine WC.cond_false (.mk rfl rfl) ?_
  refine WC.skip ?_
  (refine hK _ _ ?_; clear hK)
  refine WC.seq fun K hK => ?_
  refine WC.region rfl ?_
  refine wG rfl rfl (g_fieldAddr (off := 2) rfl (.mk rfl rfl) rfl (fun _ _ => rfl)) ?_
  refine wG rfl rfl (g_load rfl (.mk rfl rfl) rfl (rd_pt (.head _) rfl)) ?_
  refine wG rfl rfl (g_fieldAddr (off := 1) rfl (.mk rfl rfl) rfl (fun _ _ => rfl)) ?_
  refine wG rfl rfl (g_load rfl (.mk rfl rfl) rfl (rd_pt (.head _) rfl)) ?_
  (refine WL.want rfl (WL1.callVN rfl rfl (.mk rfl rfl) (by first | assumption | rfl | kernel_rfl) (.cons (.mk (v := .int _ _) rfl rfl) .nil) (fun w hw => hpj w) ?_); rintro _ _ ⟨A, c, rs, hrs, rfl, rfl⟩)
  refine wG rfl rfl (g_move rfl (.mk (v := .tuple _) rfl rfl)) ?_
  refine wG rfl rfl (g_extract rfl (.mk rfl rfl) rfl) ?_
  refine wG rfl rfl (g_extract rfl (.mk rfl rfl) rfl) ?_
  refine WL.want rfl (WL1.alloc rfl rfl rfl rfl (fun b9 => ?_))
  refine WL.want rfl (WL1.storeAll rfl rfl (.mk rfl rfl) (.mk rfl rfl) rfl (all1 rfl) (by first | rfl | (simp [Blk.len]; done)) (.head) ?_)
  refine wG rfl rfl (g_assign rfl (.mk (v := .int _ _) rfl rfl)) ?_
  refine WL.nil ?_
  (refine hK _ _ ?_; clear hK)
  refine WC.seq fun K hK => ?_
  refine WC.region rfl ?_
  refine wG rfl rfl (g_move rfl (.mk (v := .int _ _) rfl rfl)) ?_
  refine wG rfl rfl (g_eq rfl (.mk rfl rfl) (.mk rfl rfl) (decide_eq_true (by omega))) ?_
  refine WL.nil ?_
  (refine hK _ _ ?_; clear hK)
  refine WC.cond_true (.mk rfl rfl) ?_
  refine WC.seq fun K hK => ?_
  refine WC.region rfl ?_
  refine wG rfl rfl (g_loadA rfl (.mk rfl rfl) rfl rfl (rdr_pt (cs := [iv 13, .slice _ _ _]) (by first | ((repeat (first | exact .head _ | apply List.Mem.tail)); done) | fail) (fun j u h => by simpa using h))) ?_
  refine WL.want rfl (WL1.storeAll rfl rfl (.mk rfl rfl) (.mk rfl rfl) rfl (all1 rfl) (by first | rfl | (simp [Blk.len]; done)) (.tail (.tail (.tail (.tail (.tail (.head)))))) ?_)
  refine wG rfl rfl (g_assign rfl (.mk (v := .int _ _) rfl rfl)) ?_
  refine WL.nil ?_
  (refine hK _ _ ?_; clear hK)
  refine WC.ret ?_
  exact ⟨_, .cell rfl rfl rfl rfl (by first | ((repeat (first | exact .head _ | apply List.Mem.tail)); done) | fail) (.tmp rfl rfl .nil), fun w' hw' => ⟨_, _, rfl, (Imp.pick (by repeat (first | exact .head | apply Take.tail)) (Imp.pick (by repeat (first | exact .head | apply Take.tail)) (Imp.nil _))).h hw', A, c, rs, hrs, rfl, rfl⟩⟩
end Go.Proofs.Ytdcijljfgcjelaa
namespace Go.Proofs.Ytdcijljfgcjelaa
set_option maxRecDepth 20000
open Go.RowKit
attribute [local irreducible] Calls
section
variable (d wd t : Nat) (w : World) (v k : Nat) (hd : d < 256) (hwd : wd < 256) (ht : t < 256) (hv : 5 + d % 9 = v) (hk : 4 + wd % 3 = k)
include hd hwd ht hv hk
set_option maxHeartbeats 2000000 in
theorem chosen_y (q : Nat) (hq : q ≤ 130) (gs : List (List Nat))
    (h1 : ∀ w, Calls Try.prog 33 #[iv v, iv k] w fun e w' => ∃ u M, e = .returned u ∧ H w M w' ∧ ∃ A c, u = .tuple #[.agg #[iv v, .slice A q c], iv 0] ∧ M = [])
    (h2 : ∀ w, Calls Try.prog 21 #[iv v, iv k] w fun e w' => ∃ u M, e = .returned u ∧ H w M w' ∧ ∃ A c rs, ils rs = gs ∧ u = .tuple #[dsgV v A c rs, iv 0] ∧ M = dsgA A c rs) :
    Calls Try.prog 13 #[.int .u8 d, .int .u8 wd, .int .u8 t, .int .u8 2] w fun e w' => ∃ u M, e = .returned u ∧ H w M w' ∧ ∃ A c rs, ils rs = gs ∧ u = .tuple #[layV v A c rs (1 + t % 3) 2, .bool true] ∧ M = dsgA A c rs := by
  have r1 : (d : Int).tmod 9 = ((v - 5 : Nat) : Int) := by rw [Int.tmod_eq_emod_of_nonneg (by omega)]; omega
  have r2 : (wd : Int).tmod 3 = ((k - 4 : Nat) : Int) := by rw [Int.tmod_eq_emod_of_nonneg (by omega)]; omega
  obtain ⟨z, hz⟩ : ∃ z, z = t % 3 := ⟨_, rfl⟩
  have r3 : (t : Int).tmod 3 = (z : Int) := by rw [Int.tmod_eq_emod_of_nonneg (by omega)]; omega
  have r4 : (2 : Int).tmod 40 = 2 := rfl
  rw [← hz]
  have hz3 : z ≤ 2 := by omega
  have e1 : (5 : Int) + ((v - 5 : Nat) : Int) = v := by omega
  have e2 : (4 : Int) + ((k - 4 : Nat) : Int) = k := by omega
  have e3 : (1 : Int) + (z : Int) = ((1 + z : Nat) : Int) := by omega
  have hv5 : v - 5 ≤ 8 := by omega
  have hk4 : k - 4 ≤ 2 := by omega
  clear hz hv hk
  generalize v - 5 = v5 at *
  generalize k - 4 = k4 at *
  rw [← e1, ← e2] at h1 h2
  refine calls_wcG (args := [.int .u8 d, .int .u8 wd, .int .u8 t, .int .u8 2]) [.cell 8 46, .tmp 9] [] Try.func13 rfl Try.ntmps13 rfl rfl (H.refl _) ?_
  refine WC.seq fun K hK => ?_
  refine WC.region rfl ?_
  refine WL.want rfl (WL1.alloc rfl rfl rfl rfl (fun b8 => ?_))
  refine wG rfl rfl (g_assign rfl (.mk (v := .bool _) rfl rfl)) ?_
  refine WL.nil ?_
  (refine hK _ _ ?_; clear hK)
  refine WC.seq fun K hK => ?_
  refine WC.region rfl ?_
  refine wG rfl rfl (g_move rfl (.mk (v := .int _ _) rfl rfl)) ?_
  refine wG rfl rfl (g_rem rfl (.mk rfl rfl) (.mk rfl rfl) (by omega) r1) ?_
  refine wG rfl rfl (g_conv rfl rfl rfl (.mk rfl rfl) (IntWalk.i64_in _ (by omega))) ?_
  refine wG rfl rfl (g_add rfl (.mk rfl rfl) (.mk rfl rfl) (IntWalk.i64_in _ (by omega))) ?_
  refine wG rfl rfl (g_assign rfl (.mk (v := .int _ _) rfl rfl)) ?_
  refine WL.nil ?_
  (refine hK _ _ ?_; clear hK)
  refine WC.seq fun K hK => ?_
  refine WC.region rfl ?_
  refine wG rfl rfl (g_move rfl (.mk (v := .int _ _) rfl rfl)) ?_
  refine wG rfl rfl (g_rem rfl (.mk rfl rfl) (.mk rfl rfl) (by omega) r2) ?_
  refine wG rfl rfl (g_conv rfl rfl rfl (.mk rfl rfl) (IntWalk.i64_in _ (by omega))) ?_
  refine wG rfl rfl (g_add rfl (.mk rfl rfl) (.mk rfl rfl) (IntWalk.i64_in _ (by omega))) ?_
  refine wG rfl rfl (g_assign rfl (.mk (v := .int _ _) rfl rfl)) ?_
  refine WL.nil ?_
  (refine hK _ _ ?_; clear hK)
  refine WC.seq fun K hK => ?_
  refine WC.region rfl ?_
  refine wG rfl rfl (g_move rfl (.mk (v := .int _ _) rfl rfl)) ?_
  refine wG rfl rfl (g_move rfl (.mk (v := .int _ _) rfl rfl)) ?_
  (refine WL.want rfl (WL1.callN rfl rfl rfl (.cons (.mk (v := .int _ _) rfl rfl) (.cons (.mk (v := .int _ _) rfl rfl) .nil)) (fun w hw => h1 w) ?_); rintro _ _ ⟨A0, c0, rfl, rfl⟩)
  refine wG rfl rfl (g_move rfl (.mk (v := .tuple _) rfl rfl)) ?_
  refine wG rfl rfl (g_extract rfl (.mk rfl rfl) rfl) ?_
  refine wG rfl rfl (g_extract rfl (.mk rfl rfl) rfl) ?_
  refine WL.want rfl (WL1.alloc rfl rfl rfl rfl (fun b12 => ?_))
  refine WL.want rfl (WL1.storeAll rfl rfl (.mk rfl rfl) (.mk rfl rfl) rfl (all1 rfl) (by first | rfl | (simp [Blk.len]; done)) (.head) ?_)
  refine wG rfl rfl (g_assign rfl (.mk (v := .int _ _) rfl rfl)) ?_
  refine WL.nil ?_
  (refine hK _ _ ?_; clear hK)
  refine WC.seq fun K hK => ?_
  refine WC.seq fun K hK => ?_
  refine WC.region rfl ?_
  refine wG rfl rfl (g_move rfl (.mk (v := .int _ _) rfl rfl)) ?_
  refine wG rfl rfl (g_ne rfl (.mk rfl rfl) (.mk rfl rfl) (decide_eq_false (by omega))) ?_
  refine wG rfl rfl (g_move rfl (.mk (v := .bool _) rfl rfl)) ?_
  refine WL.wantG rfl rfl rfl rfl (WL1.give rfl (g_fieldAddr (off := 1) rfl (.mk rfl rfl) rfl (fun _ _ => rfl)) ?_)
  refine WL.wantG rfl rfl rfl rfl (WL1.give rfl (g_load rfl (.mk rfl rfl) rfl (rd_pt (.head _) rfl)) ?_)
  refine WL.wantG rfl rfl rfl rfl (WL1.give rfl (g_len rfl (.mk rfl rfl) rfl) ?_)
  refine WL.wantG rfl rfl rfl rfl (WL1.give rfl (g_gt rfl (.mk rfl rfl) (.mk rfl rfl) (decide_eq_false (by omega))) ?_)
  refine wG rfl rfl (g_pickF rfl (.mk rfl rfl) (.mk (v := .bool _) rfl rfl)) ?_
  refine WL.nil ?_
  (refine hK _ _ ?_; clear hK)
  refine WC.cond_false (.mk rfl rfl) ?_
  refine WC.skip ?_
  (refine hK _ _ ?_; clear hK)
  refine WC.seq fun K hK => ?_
  refine WC.region rfl ?_
  refine wG rfl rfl (g_move rfl (.mk (v := .int _ _) rfl rfl)) ?_
  refine wG rfl rfl (g_move rfl (.mk (v := .int _ _) rfl rfl)) ?_
  (refine WL.want rfl (WL1.callN rfl rfl rfl (.cons (.mk (v := .int _ _) rfl rfl) (.cons (.mk (v := .int _ _) rfl rfl) .nil)) (fun w hw => h2 w) ?_); rintro _ _ ⟨A, c, rs, hrs, rfl, rfl⟩)
  refine wG rfl rfl (g_move rfl (.mk (v := .tuple _) rfl rfl)) ?_
  refine wG rfl rfl (g_extract rfl (.mk rfl rfl) rfl) ?_
  refine wG rfl rfl (g_extract rfl (.mk rfl rfl) rfl) ?_
  refine WL.want rfl (WL1.alloc rfl rfl rfl rfl (fun b14 => ?_))
  refine WL.want rfl (WL1.storeAll rfl rfl (.mk rfl rfl) (.mk rfl rfl) rfl (all1 rfl) (by first | rfl | (simp [Blk.len]; done)) (.head) ?_)
  refine wG rfl rfl (g_assign rfl (.mk (v := .int _ _) rfl rfl)) ?_
  refine WL.nil ?_
  (refine hK _ _ ?_; clear hK)
  refine WC.seq fun K hK => ?_
  refine WC.region rfl ?_
  refine wG rfl rfl (g_loadA rfl (.mk rfl rfl) rfl rfl (rdr_pt (.head _) (fun j u h => by simpa using h))) ?_
  refine wG rfl rfl (g_move rfl (.mk (v := .int _ _) rfl rfl)) ?_
  refine wG rfl rfl (g_rem rfl (.mk rfl rfl) (.mk rfl rfl) (by omega) r3) ?_
  refine wG rfl rfl (g_conv rfl rfl rfl (.mk rfl rfl) (IntWalk.i64_in _ (by omega))) ?_
  refine wG rfl rfl (g_add rfl (.mk rfl rfl) (.mk rfl rfl) (IntWalk.i64_in _ (by omega))) ?_
  refine wG rfl rfl (g_move rfl (.mk (v := .int _ _) rfl rfl)) ?_
  refine wG rfl rfl (g_rem rfl (.mk rfl rfl) (.mk rfl rfl) (by omega) r4) ?_
  refine wG rfl rfl (g_conv rfl rfl rfl (.mk rfl rfl) (IntWalk.i64_in _ (by omega))) ?_
  refine wG rfl rfl (g_buildS (us := [(0, [iv v, .slice A rs.length c]), (1, [_]), (2, [_])]) (cs := [iv v, .slice A rs.length c, iv ((1 : Int) + z), iv 2]) rfl rfl rfl rfl (.cons (.mk (v := .agg #[iv v, .slice A rs.length c]) rfl rfl) (.cons (.mk (v := .int _ _) rfl rfl) (.cons (.mk (v := .int _ _) rfl rfl) .nil))) rfl (fun p hp => by simp only [List.mem_cons, List.not_mem_nil, or_false] at hp; rcases hp with rfl | rfl | rfl <;> exact ⟨_, _, rfl, rfl, Nat.le_of_ble_eq_true rfl⟩) rfl) ?_
  refine WL.want rfl (WL1.storeAll rfl rfl (.mk rfl rfl) (.mk rfl rfl) rfl (all1 rfl) (by first | rfl | (simp [Blk.len]; done)) (.tail (.tail (.tail (.tail (.head))))) ?_)
  refine wG rfl rfl (g_assign rfl (.mk (v := .bool _) rfl rfl)) ?_
  refine WL.nil ?_
  (refine hK _ _ ?_; clear hK)
  refine WC.ret ?_
  exact ⟨_, .cell rfl rfl rfl rfl (by first | ((repeat (first | exact .head _ | apply List.Mem.tail)); done) | fail) (.tmp rfl rfl .nil), fun w' hw' => ⟨_, _, rfl, (Imp.pick (by repeat (first | exact .head | apply Take.tail)) (Imp.pick (by repeat (first | exact .head | apply Take.tail)) (Imp.nil _))).h hw', A, c, rs, hrs, by show _ = Value.tuple #[.agg #[iv v, .slice A rs.length c, iv ((1 + z : Nat) : Int), iv ((2 : Nat) : Int)], .bool true]; rw [← e3]; rfl, rfl⟩⟩
set_option maxHeartbeats 2000000 in
theorem chosen_n (q : Nat) (hq : 130 < q) (hq2 : q ≤ 4097)
    (h1 : ∀ w, Calls Try.prog 33 #[iv v, iv k] w fun e w' => ∃ u M, e = .returned u ∧ H w M w' ∧ ∃ A c, u = .tuple #[.agg #[iv v, .slice A q c], iv 0] ∧ M = []) :
    Calls Try.prog 13 #[.int .u8 d, .int .u8 wd, .int .u8 t, .int .u8 2] w fun e w' => e = .returned (.tuple #[.agg #[iv 0, .slice none 0 0, iv 0, iv 0], .bool false]) ∧ Below w.heap.size w w' := by
  have _ := ht
  have r1 : (d : Int).tmod 9 = ((v - 5 : Nat) : Int) := by rw [Int.tmod_eq_emod_of_nonneg (by omega)]; omega
  have r2 : (wd : Int).tmod 3 = ((k - 4 : Nat) : Int) := by rw [Int.tmod_eq_emod_of_nonneg (by omega)]; omega
  have e1 : (5 : Int) + ((v - 5 : Nat) : Int) = v := by omega
  have e2 : (4 : Int) + ((k - 4 : Nat) : Int) = k := by omega
  have hv5 : v - 5 ≤ 8 := by omega
  have hk4 : k - 4 ≤ 2 := by omega
  clear hv hk
  generalize v - 5 = v5 at *
  generalize k - 4 = k4 at *
  rw [← e1, ← e2] at h1
  refine calls_wcG (args := [.int .u8 d, .int .u8 wd, .int .u8 t, .int .u8 2]) [.cell 8 46, .tmp 9] [] Try.func13 rfl Try.ntmps13 rfl rfl (H.refl _) ?_
  refine WC.seq fun K hK => ?_
  refine WC.region rfl ?_
  refine WL.want rfl (WL1.alloc rfl rfl rfl rfl (fun b8 => ?_))
  refine wG rfl rfl (g_assign rfl (.mk (v := .bool _) rfl rfl)) ?_
  refine WL.nil ?_
  (refine hK _ _ ?_; clear hK)
  refine WC.seq fun K hK => ?_
  refine WC.region rfl ?_
  refine wG rfl rfl (g_move rfl (.mk (v := .int _ _) rfl rfl)) ?_
  refine wG rfl rfl (g_rem rfl (.mk rfl rfl) (.mk rfl rfl) (by omega) r1) ?_
  refine wG rfl rfl (g_conv rfl rfl rfl (.mk rfl rfl) (IntWalk.i64_in _ (by omega))) ?_
  refine wG rfl rfl (g_add rfl (.mk rfl rfl) (.mk rfl rfl) (IntWalk.i64_in _ (by omega))) ?_
  refine wG rfl rfl (g_assign rfl (.mk (v := .int _ _) rfl rfl)) ?_
  refine WL.nil ?_
  (refine hK _ _ ?_; clear hK)
  refine WC.seq fun K hK => ?_
  refine WC.region rfl ?_
  refine wG rfl rfl (g_move rfl (.mk (v := .int _ _) rfl rfl)) ?_
  refine wG rfl rfl (g_rem rfl (.mk rfl rfl) (.mk rfl rfl) (by omega) r2) ?_
  refine wG rfl rfl (g_conv rfl rfl rfl (.mk rfl rfl) (IntWalk.i64_in _ (by omega))) ?_
  refine wG rfl rfl (g_add rfl (.mk rfl rfl) (.mk rfl rfl) (IntWalk.i64_in _ (by omega))) ?_
  refine wG rfl rfl (g_assign rfl (.mk (v := .int _ _) rfl rfl)) ?_
  refine WL.nil ?_
  (refine hK _ _ ?_; clear hK)
  refine WC.seq fun K hK => ?_
  refine WC.region rfl ?_
  refine wG rfl rfl (g_move rfl (.mk (v := .int _ _) rfl rfl)) ?_
  refine wG rfl rfl (g_move rfl (.mk (v := .int _ _) rfl rfl)) ?_
  (refine WL.want rfl (WL1.callN rfl rfl rfl (.cons (.mk (v := .int _ _) rfl rfl) (.cons (.mk (v := .int _ _) rfl rfl) .nil)) (fun w hw => h1 w) ?_); rintro _ _ ⟨A0, c0, rfl, rfl⟩)
  refine wG rfl rfl (g_move rfl (.mk (v := .tuple _) rfl rfl)) ?_
  refine wG rfl rfl (g_extract rfl (.mk rfl rfl) rfl) ?_
  refine wG rfl rfl (g_extract rfl (.mk rfl rfl) rfl) ?_
  refine WL.want rfl (WL1.alloc rfl rfl rfl rfl (fun b12 => ?_))
  refine WL.want rfl (WL1.storeAll rfl rfl (.mk rfl rfl) (.mk rfl rfl) rfl (all1 rfl) (by first | rfl | (simp [Blk.len]; done)) (.head) ?_)
  refine wG rfl rfl (g_assign rfl (.mk (v := .int _ _) rfl rfl)) ?_
  refine WL.nil ?_
  (refine hK _ _ ?_; clear hK)
  refine WC.seq fun K hK => ?_
  refine WC.seq fun K hK => ?_
  refine WC.region rfl ?_
  refine wG rfl rfl (g_move rfl (.mk (v := .int _ _) rfl rfl)) ?_
  refine wG rfl rfl (g_ne rfl (.mk rfl rfl) (.mk rfl rfl) (decide_eq_false (by omega))) ?_
  refine wG rfl rfl (g_move rfl (.mk (v := .bool _) rfl rfl)) ?_
  refine WL.wantG rfl rfl rfl rfl (WL1.give rfl (g_fieldAddr (off := 1) rfl (.mk rfl rfl) rfl (fun _ _ => rfl)) ?_)
  refine WL.wantG rfl rfl rfl rfl (WL1.give rfl (g_load rfl (.mk rfl rfl) rfl (rd_pt (.head _) rfl)) ?_)
  refine WL.wantG rfl rfl rfl rfl (WL1.give rfl (g_len rfl (.mk rfl rfl) rfl) ?_)
  refine WL.wantG rfl rfl rfl rfl (WL1.give rfl (g_gt rfl (.mk rfl rfl) (.mk rfl rfl) (decide_eq_true (by omega))) ?_)
  refine wG rfl rfl (g_pickF rfl (.mk rfl rfl) (.mk (v := .bool _) rfl rfl)) ?_
  refine WL.nil ?_
  (refine hK _ _ ?_; clear hK)
  refine WC.cond_true (.mk rfl rfl) ?_
  refine WC.seq fun K hK => ?_
  refine WC.region rfl ?_
  refine wG rfl rfl (g_buildS (us := []) (cs := [iv 0, .slice none 0 0, iv 0, iv 0]) rfl rfl rfl rfl .nil rfl (fun p hp => by simp at hp) rfl) ?_
  refine WL.want rfl (WL1.storeAll rfl rfl (.mk rfl rfl) (.mk rfl rfl) rfl (all1 rfl) (by first | rfl | (simp [Blk.len]; done)) (.tail (.head)) ?_)
  refine wG rfl rfl (g_assign rfl (.mk (v := .bool _) rfl rfl)) ?_
  refine WL.nil ?_
  (refine hK _ _ ?_; clear hK)
  refine WC.ret ?_
  exact ⟨_, .cell rfl rfl rfl rfl (by first | ((repeat (first | exact .head _ | apply List.Mem.tail)); done) | fail) (.tmp rfl rfl .nil), fun w' hw' => ⟨rfl, hw'.1⟩⟩
set_option maxHeartbeats 2000000 in
theorem chosen_e (h1 : ∀ w, Calls Try.prog 33 #[iv v, iv k] w fun e w' => e = .returned (.tuple #[.agg #[iv 0, .slice none 0 0], iv 1]) ∧ Below w.heap.size w w') :
    Calls Try.prog 13 #[.int .u8 d, .int .u8 wd, .int .u8 t, .int .u8 2] w fun e w' => e = .returned (.tuple #[.agg #[iv 0, .slice none 0 0, iv 0, iv 0], .bool false]) ∧ Below w.heap.size w w' := by
  have _ := ht
  have r1 : (d : Int).tmod 9 = ((v - 5 : Nat) : Int) := by rw [Int.tmod_eq_emod_of_nonneg (by omega)]; omega
  have r2 : (wd : Int).tmod 3 = ((k - 4 : Nat) : Int) := by rw [Int.tmod_eq_emod_of_nonneg (by omega)]; omega
  have e1 : (5 : Int) + ((v - 5 : Nat) : Int) = v := by omega
  have e2 : (4 : Int) + ((k - 4 : Nat) : Int) = k := by omega
  have hv5 : v - 5 ≤ 8 := by omega
  have hk4 : k - 4 ≤ 2 := by omega
  clear hv hk
  generalize v - 5 = v5 at *
  generalize k - 4 = k4 at *
  rw [← e1, ← e2] at h1
  refine calls_wcG (args := [.int .u8 d, .int .u8 wd, .int .u8 t, .int .u8 2]) [.cell 8 46, .tmp 9] [] Try.func13 rfl Try.ntmps13 rfl rfl (H.refl _) ?_
  refine WC.seq fun K hK => ?_
  refine WC.region rfl ?_
  refine WL.want rfl (WL1.alloc rfl rfl rfl rfl (fun b8 => ?_))
  refine wG rfl rfl (g_assign rfl (.mk (v := .bool _) rfl rfl)) ?_
  refine WL.nil ?_
  (refine hK _ _ ?_; clear hK)
  refine WC.seq fun K hK => ?_
  refine WC.region rfl ?_
  refine wG rfl rfl (g_move rfl (.mk (v := .int _ _) rfl rfl)) ?_
  refine wG rfl rfl (g_rem rfl (.mk rfl rfl) (.mk rfl rfl) (by omega) r1) ?_
  refine wG rfl rfl (g_conv rfl rfl rfl (.mk rfl rfl) (IntWalk.i64_in _ (by omega))) ?_
  refine wG rfl rfl (g_add rfl (.mk rfl rfl) (.mk rfl rfl) (IntWalk.i64_in _ (by omega))) ?_
  refine wG rfl rfl (g_assign rfl (.mk (v := .int _ _) rfl rfl)) ?_
  refine WL.nil ?_
  (refine hK _ _ ?_; clear hK)
  refine WC.seq fun K hK => ?_
  refine WC.region rfl ?_
  refine wG rfl rfl (g_move rfl (.mk (v := .int _ _) rfl rfl)) ?_
  refine wG rfl rfl (g_rem rfl (.mk rfl rfl) (.mk rfl rfl) (by omega) r2) ?_
  refine wG rfl rfl (g_conv rfl rfl rfl (.mk rfl rfl) (IntWalk.i64_in _ (by omega))) ?_
  refine wG rfl rfl (g_add rfl (.mk rfl rfl) (.mk rfl rfl) (IntWalk.i64_in _ (by omega))) ?_
  refine wG rfl rfl (g_assign rfl (.mk (v := .int _ _) rfl rfl)) ?_
  refine WL.nil ?_
  (refine hK _ _ ?_; clear hK)
  refine WC.seq fun K hK => ?_
  refine WC.region rfl ?_
  refine wG rfl rfl (g_move rfl (.mk (v := .int _ _) rfl rfl)) ?_
  refine wG rfl rfl (g_move rfl (.mk (v := .int _ _) rfl rfl)) ?_
  refine WL.want rfl (WL1.callP rfl rfl rfl (.cons (.mk (v := .int _ _) rfl rfl) (.cons (.mk (v := .int _ _) rfl rfl) .nil)) (fun w hw => h1 w) ?_)
  refine wG rfl rfl (g_move rfl (.mk (v := .tuple _) rfl rfl)) ?_
  refine wG rfl rfl (g_extract rfl (.mk rfl rfl) rfl) ?_
  refine wG rfl rfl (g_extract rfl (.mk rfl rfl) rfl) ?_
  refine WL.want rfl (WL1.alloc rfl rfl rfl rfl (fun b12 => ?_))
  refine WL.want rfl (WL1.storeAll rfl rfl (.mk rfl rfl) (.mk rfl rfl) rfl (all1 rfl) (by first | rfl | (simp [Blk.len]; done)) (.head) ?_)
  refine wG rfl rfl (g_assign rfl (.mk (v := .int _ _) rfl rfl)) ?_
  refine WL.nil ?_
  (refine hK _ _ ?_; clear hK)
  refine WC.seq fun K hK => ?_
  refine WC.seq fun K hK => ?_
  refine WC.region rfl ?_
  refine wG rfl rfl (g_move rfl (.mk (v := .int _ _) rfl rfl)) ?_
  refine wG rfl rfl (g_ne rfl (.mk rfl rfl) (.mk rfl rfl) (decide_eq_true (by omega))) ?_
  refine wG rfl rfl (g_move rfl (.mk (v := .bool _) rfl rfl)) ?_
  refine WL.skipG rfl rfl rfl rfl rfl rfl ?_
  refine WL.skipG rfl rfl rfl rfl rfl rfl ?_
  refine WL.skipG rfl rfl rfl rfl rfl rfl ?_
  refine WL.skipG rfl rfl rfl rfl rfl rfl ?_
  refine wG rfl rfl (g_pickT rfl (.mk rfl rfl) (.mk (v := .bool _) rfl rfl)) ?_
  refine WL.nil ?_
  (refine hK _ _ ?_; clear hK)
  refine WC.cond_true (.mk rfl rfl) ?_
  refine WC.seq fun K hK => ?_
  refine WC.region rfl ?_
  refine wG rfl rfl (g_buildS (us := []) (cs := [iv 0, .slice none 0 0, iv 0, iv 0]) rfl rfl rfl rfl .nil rfl (fun p hp => by simp at hp) rfl) ?_
  refine WL.want rfl (WL1.storeAll rfl rfl (.mk rfl rfl) (.mk rfl rfl) rfl (all1 rfl) (by first | rfl | (simp [Blk.len]; done)) (.tail (.head)) ?_)
  refine wG rfl rfl (g_assign rfl (.mk (v := .bool _) rfl rfl)) ?_
  refine WL.nil ?_
  (refine hK _ _ ?_; clear hK)
  refine WC.ret ?_
  exact ⟨_, .cell rfl rfl rfl rfl (by first | ((repeat (first | exact .head _ | apply List.Mem.tail)); done) | fail) (.tmp rfl rfl .nil), fun w' hw' => ⟨rfl, hw'.1⟩⟩
end
end Go.Proofs.Ytdcijljfgcjelaa
