/- The example of the document, walked: awake. No condition. -/
import Derived.Test.YtbofagfilohhfaaStp8
import Derived.Test.YtbofagfilohhfaaLaw
namespace Go.Proofs.Ytbofagfilohhfaa
set_option maxRecDepth 20000
open Go.RowKit
attribute [local irreducible] Calls
theorem own : ownKnob Try.prog.godebug = none := by kernel_rfl
theorem laidOut : laidOutB Try.prog = true := by kernel_rfl
section
variable {w : World}
set_option maxRecDepth 20000 in
theorem same_t {va vb : Value} {l : List Int} {n : Nat} (ha : Sl w 1 va n (ivs l)) (hb : Sl w 1 vb n (ivs l)) (hn : l.length = n) :
    Calls Try.prog 19 #[va, vb] w fun e w' => e = .returned (.bool true) ∧ Below w.heap.size w w' := by
  subst hn
  obtain ⟨A, c, rfl, _, hm, _⟩ := ha.open_
  obtain ⟨B, d, rfl, -, -, -⟩ := hb.open_
  refine calls_wc (args := [.slice A l.length c, .slice B l.length d]) [4] [] Try.func19 rfl Try.ntmps19 rfl rfl rfl rfl (H.refl _) ?_
  (refine WC.seq ?_; intro K hK)
  refine WC.region rfl ?_
  refine WL.want rfl (WL1.give rfl (g_assign rfl (.mk (v := .bool _) rfl rfl)) ?_)
  refine WL.nil ?_
  (refine hK _ _ ?_; clear hK)
  (refine WC.seq ?_; intro K hK)
  (refine WC.seq ?_; intro K hK)
  refine WC.region rfl ?_
  refine WL.want rfl (WL1.give rfl (g_move rfl (.mk (v := .slice _ _ _) rfl rfl)) ?_)
  refine WL.want rfl (WL1.give rfl (g_len rfl (.mk rfl rfl) rfl) ?_)
  refine WL.want rfl (WL1.give rfl (g_move rfl (.mk (v := .slice _ _ _) rfl rfl)) ?_)
  refine WL.want rfl (WL1.give rfl (g_len rfl (.mk rfl rfl) rfl) ?_)
  refine WL.want rfl (WL1.give rfl (g_ne rfl (.mk rfl rfl) (.mk rfl rfl) (decide_eq_false (by omega))) ?_)
  refine WL.nil ?_
  (refine hK _ _ ?_; clear hK)
  refine WC.cond_false (.mk rfl rfl) ?_
  refine WC.skip ?_
  (refine hK _ _ ?_; clear hK)
  (refine WC.seq ?_; intro K hK)
  (refine WC.seq ?_; intro K hK)
  refine WC.region rfl ?_
  refine WL.want rfl (WL1.give rfl (g_assign rfl (.mk (v := .int _ _) rfl rfl)) ?_)
  refine WL.nil ?_
  (refine hK _ _ ?_; clear hK)
  refine WC.block ?_
  refine WC.loop (67106864) (fun i : Nat => [(5, iv i)]) (fun _ => []) (fun i => i ≤ l.length) (fun i => l.length - i) 0 ⟨rfl, trivial⟩ (.refl _) (by omega) ?_
  intro i U hi
  have hmm : l.length ≤ maxLen := Nat.le_trans (by assumption) hm
  unfold maxLen at hmm
  by_cases hlt : i < l.length
  · (refine WC.seq ?_; intro K hK)
    (refine WC.seq ?_; intro K hK)
    refine WC.region rfl ?_
    refine WL.want rfl (WL1.give rfl (g_move rfl (.mk (v := .int _ _) rfl rfl)) ?_)
    refine WL.want rfl (WL1.give rfl (g_move rfl (.mk (v := .slice _ _ _) rfl rfl)) ?_)
    refine WL.want rfl (WL1.give rfl (g_len rfl (.mk rfl rfl) rfl) ?_)
    refine WL.want rfl (WL1.give rfl (g_lt rfl (.mk rfl rfl) (.mk rfl rfl) (decide_eq_true (by omega))) ?_)
    refine WL.nil ?_
    (refine hK _ _ ?_; clear hK)
    refine WC.cond_true (.mk rfl rfl) ?_
    refine WC.skip ?_
    (refine hK _ _ ?_; clear hK)
    (refine WC.seq ?_; intro K hK)
    refine WC.block ?_
    (refine WC.seq ?_; intro K hK)
    refine WC.quiet rfl (by kernel_rfl) (by decide +kernel) ?_
    refine WQ.want rfl (WQ1.give rfl (g_move rfl (.mk (v := .slice _ _ _) rfl rfl)) ?_)
    refine WQ.want rfl (WQ1.give rfl (g_move rfl (.mk (v := .int _ _) rfl rfl)) ?_)
    refine WQ.want rfl (WQ1.give rfl (g_indexAddr (sz := 1) rfl (.mk rfl rfl) (.mk rfl rfl) rfl rfl rfl (by omega) (fun _ _ => sl_some ha (by omega))) ?_)
    refine WQ.want rfl (WQ1.give rfl (g_load rfl (.mk rfl rfl) rfl (rd_sl ha (get1 (by omega)))) ?_)
    refine WQ.want rfl (WQ1.give rfl (g_move rfl (.mk (v := .slice _ _ _) rfl rfl)) ?_)
    refine WQ.want rfl (WQ1.give rfl (g_move rfl (.mk (v := .int _ _) rfl rfl)) ?_)
    refine WQ.want rfl (WQ1.give rfl (g_indexAddr (sz := 1) rfl (.mk rfl rfl) (.mk rfl rfl) rfl rfl rfl (by omega) (fun _ _ => sl_some hb (by omega))) ?_)
    refine WQ.want rfl (WQ1.give rfl (g_load rfl (.mk rfl rfl) rfl (rd_sl hb (get1 (by omega)))) ?_)
    refine WQ.want rfl (WQ1.give rfl (g_ne rfl (.mk rfl rfl) (.mk rfl rfl) (decide_eq_false (by omega))) ?_)
    refine WQ.nil ?_
    (refine hK _ _ ?_; clear hK)
    refine WC.cond_false (.mk rfl rfl) ?_
    refine WC.skip ?_
    (refine hK _ _ ?_; clear hK)
    refine WC.region rfl ?_
    refine WL.want rfl (WL1.give rfl (g_move rfl (.mk (v := .int _ _) rfl rfl)) ?_)
    refine WL.want rfl (WL1.give rfl (g_add rfl (.mk rfl rfl) (.mk rfl rfl) (IntWalk.i64_in _ (by omega))) ?_)
    refine WL.want rfl (WL1.give rfl (g_assign rfl (.mk (v := .int _ _) rfl rfl)) ?_)
    refine WL.nil ?_
    exact ⟨i + 1, (by repeat (first | with_reducible exact Out.refl _ _ | refine Out.set rfl ?_ | refine Out.put rfl ?_ | refine Out.sets rfl ?_ | refine Out.hav rfl ?_ | exact Out.refl _ _)), ⟨rfl, trivial⟩, .refl _, by omega, by omega⟩
  · obtain rfl : i = l.length := by omega
    (refine WC.seq ?_; intro K hK)
    (refine WC.seq ?_; intro K hK)
    refine WC.region rfl ?_
    refine WL.want rfl (WL1.give rfl (g_move rfl (.mk (v := .int _ _) rfl rfl)) ?_)
    refine WL.want rfl (WL1.give rfl (g_move rfl (.mk (v := .slice _ _ _) rfl rfl)) ?_)
    refine WL.want rfl (WL1.give rfl (g_len rfl (.mk rfl rfl) rfl) ?_)
    refine WL.want rfl (WL1.give rfl (g_lt rfl (.mk rfl rfl) (.mk rfl rfl) (decide_eq_false (by omega))) ?_)
    refine WL.nil ?_
    (refine hK _ _ ?_; clear hK)
    refine WC.cond_false (.mk rfl rfl) ?_
    refine WC.exit ?_
    (clear hK; refine hK _ _ ?_; clear hK)
    (refine WC.seq ?_; intro K hK)
    refine WC.region rfl ?_
    refine WL.want rfl (WL1.give rfl (g_assign rfl (.mk (v := .bool _) rfl rfl)) ?_)
    refine WL.nil ?_
    (refine hK _ _ ?_; clear hK)
    refine WC.ret ?_
    exact fun w' hw' => ⟨rfl, hw'.1⟩
end
/-- The example's states. -/
def awK (p1 p2 j1 j2 : Nat) : Nat → List En × List Jb
  | 0 => ([⟨p1, 1, 2, 0, j1⟩, ⟨p2, 2, 1, 0, j2⟩], [⟨j1, 0, 0⟩, ⟨j2, 0, 0⟩])
  | k + 1 => (fairE (awK p1 p2 j1 j2 k).1 (awK p1 p2 j1 j2 k).2, fairJ (awK p1 p2 j1 j2 k).1 (awK p1 p2 j1 j2 k).2)
def awL : List Int := [1, 2, 1, 1, 2, 1]
def awC1 : List Int := [0, -1, 1, 0, -1, 1, 0]
def awC2 : List Int := [0, 1, -1, 0, 1, -1, 0]
def awD1 : List Int := [0, 1, 1, 2, 3, 3, 4]
def awD2 : List Int := [0, 0, 1, 1, 1, 2, 2]
theorem awK_eq (p1 p2 j1 j2 : Nat) : ∀ k, k < 7 → awK p1 p2 j1 j2 k = ([⟨p1, 1, 2, awC1.getD k 0, j1⟩, ⟨p2, 2, 1, awC2.getD k 0, j2⟩], [⟨j1, -awD1.getD k 0, awD1.getD k 0⟩, ⟨j2, -awD2.getD k 0, awD2.getD k 0⟩])
  | 0, _ => rfl
  | 1, _ => by rw [awK, awK_eq _ _ _ _ 0 (by omega)]; rfl
  | 2, _ => by rw [awK, awK_eq _ _ _ _ 1 (by omega)]; rfl
  | 3, _ => by rw [awK, awK_eq _ _ _ _ 2 (by omega)]; rfl
  | 4, _ => by rw [awK, awK_eq _ _ _ _ 3 (by omega)]; rfl
  | 5, _ => by rw [awK, awK_eq _ _ _ _ 4 (by omega)]; rfl
  | 6, _ => by rw [awK, awK_eq _ _ _ _ 5 (by omega)]; rfl
  | k + 7, h => absurd h (by omega)
theorem aw_ok {p1 p2 j1 j2 : Nat} {c1 c2 l1 d1 l2 d2 : Int} : Ok [⟨p1, 1, 2, c1, j1⟩, ⟨p2, 2, 1, c2, j2⟩] [⟨j1, l1, d1⟩, ⟨j2, l2, d2⟩] := by
  refine ⟨fun e he => ?_, ?_⟩
  · rcases List.mem_cons.1 he with rfl | he
    · exact ⟨by simp, by simp, rfl, by simp, by simp⟩
    · obtain rfl := List.mem_singleton.1 he
      exact ⟨by simp, by simp, rfl, by simp, by simp⟩
  · simp
/-- What a fair pick of the example answers. -/
theorem aw_pick (p1 p2 j1 j2 k : Nat) (hk : k < 6) : (awK p1 p2 j1 j2 k).1.length = 2 ∧ Bnd (awK p1 p2 j1 j2 k).1 ∧ Ok (awK p1 p2 j1 j2 k).1 (awK p1 p2 j1 j2 k).2 ∧
    (nth (awK p1 p2 j1 j2 k).1 (fairB (awK p1 p2 j1 j2 k).1)).id = awL.getD k 0 ∧ (nth (awK p1 p2 j1 j2 k).2 (nth (awK p1 p2 j1 j2 k).1 (fairB (awK p1 p2 j1 j2 k).1)).q).stp.l ≠ 0 := by
  rw [awK_eq _ _ _ _ k (by omega)]
  refine ⟨rfl, fun i hi => ?_, aw_ok, ?_, ?_⟩
  · have hi2 : i < 2 := hi
    obtain rfl | rfl : i = 0 ∨ i = 1 := by omega
    · obtain rfl | rfl | rfl | rfl | rfl | rfl : k = 0 ∨ k = 1 ∨ k = 2 ∨ k = 3 ∨ k = 4 ∨ k = 5 := by omega
      all_goals (refine ⟨?_, ?_, ?_, ?_⟩ <;> exact of_decide_eq_true rfl)
    · obtain rfl | rfl | rfl | rfl | rfl | rfl : k = 0 ∨ k = 1 ∨ k = 2 ∨ k = 3 ∨ k = 4 ∨ k = 5 := by omega
      all_goals (refine ⟨?_, ?_, ?_, ?_⟩ <;> exact of_decide_eq_true rfl)
  · obtain rfl | rfl | rfl | rfl | rfl | rfl : k = 0 ∨ k = 1 ∨ k = 2 ∨ k = 3 ∨ k = 4 ∨ k = 5 := by omega
    all_goals rfl
  · obtain rfl | rfl | rfl | rfl | rfl | rfl : k = 0 ∨ k = 1 ∨ k = 2 ∨ k = 3 ∨ k = 4 ∨ k = 5 := by omega
    all_goals exact of_decide_eq_true rfl
section
variable {w : World}
set_option maxRecDepth 20000 in
set_option maxHeartbeats 1000000 in
theorem awake_e : Calls Try.prog 9 #[] w fun e w' => e = .returned (.bool true) ∧ Below w.heap.size w w' := by
  refine calls_wc (args := []) [0] [] Try.func9 rfl Try.ntmps9 rfl rfl rfl rfl (H.refl _) ?_
  (refine WC.seq ?_; intro K hK)
  refine WC.region rfl ?_
  refine WL.want rfl (WL1.give rfl (g_assign rfl (.mk (v := .bool _) rfl rfl)) ?_)
  refine WL.nil ?_
  (refine hK _ _ ?_; clear hK)
  (refine WC.seq ?_; intro K hK)
  refine WC.region rfl ?_
  (refine WL.want rfl (WL1.callN rfl rfl rfl .nil (fun w hw => new_n) ?_); rintro _ _ ⟨S, rfl, rfl⟩)
  refine WL.want rfl (WL1.give rfl (g_assign rfl (.mk (v := cellPtr _ _) rfl rfl)) ?_)
  refine WL.nil ?_
  (refine hK _ _ ?_; clear hK)
  (refine WC.seq ?_; intro K hK)
  (refine WC.seq ?_; intro K hK)
  refine WC.region rfl ?_
  refine WL.want rfl (WL1.give rfl (g_move rfl (.mk (v := cellPtr _ _) rfl rfl)) ?_)
  refine WL.want rfl (WL1.give rfl (g_eqPN rfl (.mk rfl rfl) (.mk rfl rfl) rfl (fun _ _ => rfl)) ?_)
  refine WL.nil ?_
  (refine hK _ _ ?_; clear hK)
  refine WC.cond_false (.mk rfl rfl) ?_
  refine WC.skip ?_
  (refine hK _ _ ?_; clear hK)
  (refine WC.seq ?_; intro K hK)
  refine WC.region rfl ?_
  refine WL.want rfl (WL1.give rfl (g_move rfl (.mk (v := cellPtr _ _) rfl rfl)) ?_)
  refine WL.want rfl (WL1.give rfl (g_build (cs := [_, _]) rfl rfl rfl rfl .nil rfl rfl rfl) ?_)
  refine WL.want rfl (WL1.box rfl rfl (.mk (v := .agg _) rfl rfl) rfl (fun b16 => ?_))
  refine WL.want rfl (WL1.give rfl (g_mkIface rfl (.mk (v := cellPtr _ _) rfl rfl) rfl) ?_)
  (refine WL.want rfl (WL1.callF rfl rfl rfl (.cons (.mk (v := cellPtr _ _) rfl rfl) (.cons (.mk (v := .iface _ _) rfl rfl) (.cons (.mk (v := .int _ _) rfl rfl) .nil))) (fun w hw => add_ok (es := []) (last := 0) (j := b16) (x := 2) (by decide) (by decide) (by decide) (by decide) (by decide) (hw.perm (List.perm_middle (l₁ := schd S none 0 0 [])).symm)) ?_); rintro _ _ ⟨A1, c1, p1, rfl, rfl⟩)
  refine WL.want rfl (WL1.give rfl (g_move rfl (.mk (v := .tuple _) rfl rfl)) ?_)
  refine WL.want rfl (WL1.give rfl (g_extract rfl (.mk rfl rfl) rfl) ?_)
  refine WL.want rfl (WL1.give rfl (g_extract rfl (.mk rfl rfl) rfl) ?_)
  refine WL.want rfl (WL1.give rfl (g_assign rfl (.mk (v := .int _ _) rfl rfl)) ?_)
  refine WL.want rfl (WL1.give rfl (g_assign rfl (.mk (v := .int _ _) rfl rfl)) ?_)
  refine WL.nil ?_
  (refine hK _ _ ?_; clear hK)
  (refine WC.seq ?_; intro K hK)
  refine WC.region rfl ?_
  refine WL.want rfl (WL1.give rfl (g_move rfl (.mk (v := cellPtr _ _) rfl rfl)) ?_)
  refine WL.want rfl (WL1.give rfl (g_build (cs := [_, _]) rfl rfl rfl rfl .nil rfl rfl rfl) ?_)
  refine WL.want rfl (WL1.box rfl rfl (.mk (v := .agg _) rfl rfl) rfl (fun b24 => ?_))
  refine WL.want rfl (WL1.give rfl (g_mkIface rfl (.mk (v := cellPtr _ _) rfl rfl) rfl) ?_)
  (refine WL.want rfl (WL1.callF rfl rfl rfl (.cons (.mk (v := cellPtr _ _) rfl rfl) (.cons (.mk (v := .iface _ _) rfl rfl) (.cons (.mk (v := .int _ _) rfl rfl) .nil))) (fun w hw => add_ok (es := [⟨p1, 1, 2, 0, b16⟩]) (last := 1) (j := b24) (x := 1) (by simp) (by decide) (by decide) (by decide) (by decide) (hw.perm (List.perm_middle (l₁ := schd S A1 c1 1 [⟨p1, 1, 2, 0, b16⟩])).symm)) ?_); rintro _ _ ⟨A2, c2, p2, rfl, rfl⟩)
  refine WL.want rfl (WL1.give rfl (g_move rfl (.mk (v := .tuple _) rfl rfl)) ?_)
  refine WL.want rfl (WL1.give rfl (g_extract rfl (.mk rfl rfl) rfl) ?_)
  refine WL.want rfl (WL1.give rfl (g_extract rfl (.mk rfl rfl) rfl) ?_)
  refine WL.want rfl (WL1.give rfl (g_assign rfl (.mk (v := .int _ _) rfl rfl)) ?_)
  refine WL.want rfl (WL1.give rfl (g_assign rfl (.mk (v := .int _ _) rfl rfl)) ?_)
  refine WL.nil ?_
  (refine hK _ _ ?_; clear hK)
  (refine WC.seq ?_; intro K hK)
  refine WC.region rfl ?_
  refine WL.want rfl (WL1.give rfl (g_assign rfl (.mk (v := .slice _ _ _) rfl rfl)) ?_)
  refine WL.nil ?_
  (refine hK _ _ ?_; clear hK)
  (refine WC.seq ?_; intro K hK)
  (refine WC.seq ?_; intro K hK)
  refine WC.region rfl ?_
  refine WL.want rfl (WL1.give rfl (g_move rfl (.mk (v := .int _ _) rfl rfl)) ?_)
  refine WL.nil ?_
  (refine hK _ _ ?_; clear hK)
  refine WC.block ?_
  refine WC.nilvec 3 1 ?_
  refine WC.imp (M := schd S A2 c2 2 (awK p1 p2 b16 b24 0).1 ++ jbs (awK p1 p2 b16 b24 0).2 :: vec none 0 0 3 1 [] :: []) ?_ ?_
  · refine Imp.trans (M := schd S A2 c2 2 (awK p1 p2 b16 b24 0).1 ++ jb ⟨b24, 0, 0⟩ :: jb ⟨b16, 0, 0⟩ :: vec none 0 0 3 1 [] :: []) ?_ (Imp.cons (Imp.cons (Imp.cons ?_)))
    · exact Imp.pick (.tail .head) (Imp.pick (.tail .head) (Imp.pick (.tail .head) (Imp.pick (.tail .head) (Imp.pick (.tail .head) (Imp.refl _)))))
    · exact Imp.trans (Imp.cons (Imp.cons jbs_none)) (Imp.trans (Imp.cons (jbs_new (js := []))) (jbs_new (js := [⟨b16, 0, 0⟩])))
  refine WC.loopI3 (140736951485377) (fun (k : Nat) (A' : Option Addr) (c' : Nat) => [(29, iv k), (6, .slice A' k c')]) (fun k A' c' => schd S A2 c2 2 (awK p1 p2 b16 b24 k).1 ++ jbs (awK p1 p2 b16 b24 k).2 :: vec A' k c' 3 1 (ivs (awL.take k)) :: []) (fun k _ _ => k ≤ 6) (fun k _ _ => 6 - k) 0 none 0 ⟨rfl, rfl, trivial⟩ (Imp.refl _) (by omega) ?_
  intro k A' c' U hk
  by_cases hlt : k < 6
  · obtain ⟨hl, hB, ho, hid, hst⟩ := aw_pick p1 p2 b16 b24 k hlt
    have HF : ∀ w', H w (schd S A2 c2 2 (awK p1 p2 b16 b24 k).1 ++ jbs (awK p1 p2 b16 b24 k).2 :: vec A' k c' 3 1 (ivs (awL.take k)) :: []) w' → Calls Try.prog 14 #[bp S] w' fun e w'' => ∃ u L', e = .returned u ∧ H w L' w'' ∧ u = .tuple #[iv (awL.getD k 0), .bool false, iv 0] ∧ L' = schd S A2 c2 2 (awK p1 p2 b16 b24 (k + 1)).1 ++ jbs (awK p1 p2 b16 b24 (k + 1)).2 :: vec A' k c' 3 1 (ivs (awL.take k)) :: [] := fun w' hw' => by
      have := fair_f (by omega) (by omega) hB ho hw'
      rw [hid, decide_eq_false hst] at this
      exact this
    generalize awK p1 p2 b16 b24 k = st at HF ⊢
    (refine WC.seq ?_; intro K hK)
    refine WC.region rfl ?_
    refine WL.want rfl (WL1.give rfl (g_lt rfl (.mk rfl rfl) (.mk rfl rfl) (decide_eq_true (by omega))) ?_)
    refine WL.nil ?_
    (refine hK _ _ ?_; clear hK)
    (refine WC.seq ?_; intro K hK)
    refine WC.cond_true (.mk rfl rfl) ?_
    refine WC.skip ?_
    (refine hK _ _ ?_; clear hK)
    (refine WC.seq ?_; intro K hK)
    refine WC.block ?_
    (refine WC.seq ?_; intro K hK)
    refine WC.region rfl ?_
    refine WL.want rfl (WL1.give rfl (g_move rfl (.mk (v := cellPtr _ _) rfl rfl)) ?_)
    (refine WL.want rfl (WL1.callF rfl rfl rfl (.cons (.mk (v := cellPtr _ _) rfl rfl) .nil) (fun w hw => HF w hw) ?_); rintro _ _ ⟨rfl, rfl⟩)
    refine WL.want rfl (WL1.give rfl (g_move rfl (.mk (v := .tuple _) rfl rfl)) ?_)
    refine WL.want rfl (WL1.give rfl (g_extract rfl (.mk rfl rfl) rfl) ?_)
    refine WL.want rfl (WL1.give rfl (g_extract rfl (.mk rfl rfl) rfl) ?_)
    refine WL.want rfl (WL1.give rfl (g_extract rfl (.mk rfl rfl) rfl) ?_)
    refine WL.want rfl (WL1.give rfl (g_assign rfl (.mk (v := .int _ _) rfl rfl)) ?_)
    refine WL.want rfl (WL1.give rfl (g_assign rfl (.mk (v := .bool _) rfl rfl)) ?_)
    refine WL.want rfl (WL1.give rfl (g_assign rfl (.mk (v := .int _ _) rfl rfl)) ?_)
    refine WL.nil ?_
    (refine hK _ _ ?_; clear hK)
    (refine WC.seq ?_; intro K hK)
    (refine WC.seq ?_; intro K hK)
    refine WC.region rfl ?_
    refine WL.want rfl (WL1.give rfl (g_move rfl (.mk (v := .bool _) rfl rfl)) ?_)
    refine WL.want rfl (WL1.give rfl (g_move rfl (.mk (v := .bool _) rfl rfl)) ?_)
    refine WL.wantG rfl rfl rfl rfl (WL1.give rfl (g_move rfl (.mk (v := .int _ _) rfl rfl)) ?_)
    refine WL.wantG rfl rfl rfl rfl (WL1.give rfl (g_ne rfl (.mk rfl rfl) (.mk rfl rfl) (decide_eq_false (by omega))) ?_)
    refine WL.want rfl (WL1.give rfl (g_pickF rfl (.mk rfl rfl) (.mk (v := .bool _) rfl rfl)) ?_)
    refine WL.nil ?_
    (refine hK _ _ ?_; clear hK)
    refine WC.cond_false (.mk rfl rfl) ?_
    refine WC.skip ?_
    (refine hK _ _ ?_; clear hK)
    refine WC.region rfl ?_
    refine WL.want rfl (WL1.give rfl (g_move rfl (.mk (v := .slice _ _ _) rfl rfl)) ?_)
    refine WL.want rfl (WL1.give rfl (g_move rfl (.mk (v := .int _ _) rfl rfl)) ?_)
    refine WL.want rfl (WL1.lit (cs := [_]) elI rfl rfl rfl (.cons (.mk (v := .int _ _) rfl rfl) .nil) rfl (by first | (simp [Value.cells]; done) | fail) rfl rfl (fun b44 => ?_))
    refine WL.want rfl (WL1.append elI rfl rfl (.mk rfl rfl) (.mk rfl rfl) (.tail (.tail (.tail (.tail (.tail (.head)))))) (fun w hw => Sl.of_vec hw (.head _)) (all1 rfl) (by unfold maxLen; omega) (by omega) (fun A45 c45 => ?_))
    refine WL.want rfl (WL1.give rfl (g_assign rfl (.mk (v := .slice _ _ _) rfl rfl)) ?_)
    refine WL.nil ?_
    (refine hK _ _ ?_; clear hK)
    refine WC.region rfl ?_
    refine WL.want rfl (WL1.give rfl (g_add rfl (.mk rfl rfl) (.mk rfl rfl) (IntWalk.i64_in _ (by omega))) ?_)
    refine WL.want rfl (WL1.give rfl (g_move rfl (.mk (v := .int _ _) rfl rfl)) ?_)
    refine WL.nil ?_
    refine ⟨k + 1, A45, c45, (by repeat (first | with_reducible exact Out.refl _ _ | refine Out.set rfl ?_ | refine Out.put rfl ?_ | refine Out.sets rfl ?_ | refine Out.hav rfl ?_ | exact Out.refl _ _)), ⟨rfl, rfl, trivial⟩, ?_, by omega, by omega⟩
    rw [show ivs (awL.take (k + 1)) = ivs (awL.take k) ++ [iv (awL.getD k 0)] from by rw [ivs_take (show k < awL.length from hlt), List.getD_eq_getElem?_getD, List.getElem?_eq_getElem (show k < awL.length from hlt)]; rfl]
    exact Imp.pick (by repeat (first | exact .head | apply Take.tail)) (Imp.pick (by repeat (first | exact .head | apply Take.tail)) (Imp.pick (by repeat (first | exact .head | apply Take.tail)) (Imp.pick (by repeat (first | exact .head | apply Take.tail)) (Imp.pick (by repeat (first | exact .head | apply Take.tail)) (Imp.nil _)))))
  · obtain rfl : k = 6 := by omega
    (refine WC.seq ?_; intro K hK)
    refine WC.region rfl ?_
    refine WL.want rfl (WL1.give rfl (g_lt rfl (.mk rfl rfl) (.mk rfl rfl) (decide_eq_false (by omega))) ?_)
    refine WL.nil ?_
    (refine hK _ _ ?_; clear hK)
    (refine WC.seq ?_; intro K hK)
    refine WC.cond_false (.mk rfl rfl) ?_
    refine WC.exit ?_
    (clear hK; refine hK _ _ ?_; clear hK)
    (refine WC.seq ?_; intro K hK)
    refine WC.region rfl ?_
    refine WL.want rfl (WL1.give rfl (g_move rfl (.mk (v := .int _ _) rfl rfl)) ?_)
    refine WL.want rfl (WL1.give rfl (g_eq rfl (.mk rfl rfl) (.mk rfl rfl) (decide_eq_true (by omega))) ?_)
    refine WL.want rfl (WL1.give rfl (g_move rfl (.mk (v := .bool _) rfl rfl)) ?_)
    refine WL.wantG rfl rfl rfl rfl (WL1.give rfl (g_move rfl (.mk (v := .int _ _) rfl rfl)) ?_)
    refine WL.wantG rfl rfl rfl rfl (WL1.give rfl (g_eq rfl (.mk rfl rfl) (.mk rfl rfl) (decide_eq_true (by omega))) ?_)
    refine WL.want rfl (WL1.give rfl (g_pickT rfl (.mk rfl rfl) (.mk (v := .bool _) rfl rfl)) ?_)
    refine WL.want rfl (WL1.give rfl (g_move rfl (.mk (v := .bool _) rfl rfl)) ?_)
    refine WL.wantG rfl rfl rfl rfl (WL1.give rfl (g_move rfl (.mk (v := .int _ _) rfl rfl)) ?_)
    refine WL.wantG rfl rfl rfl rfl (WL1.give rfl (g_eq rfl (.mk rfl rfl) (.mk rfl rfl) (decide_eq_true (by omega))) ?_)
    refine WL.want rfl (WL1.give rfl (g_pickT rfl (.mk rfl rfl) (.mk (v := .bool _) rfl rfl)) ?_)
    refine WL.want rfl (WL1.give rfl (g_move rfl (.mk (v := .bool _) rfl rfl)) ?_)
    refine WL.wantG rfl rfl rfl rfl (WL1.give rfl (g_move rfl (.mk (v := .int _ _) rfl rfl)) ?_)
    refine WL.wantG rfl rfl rfl rfl (WL1.give rfl (g_eq rfl (.mk rfl rfl) (.mk rfl rfl) (decide_eq_true (by omega))) ?_)
    refine WL.want rfl (WL1.give rfl (g_pickT rfl (.mk rfl rfl) (.mk (v := .bool _) rfl rfl)) ?_)
    refine WL.want rfl (WL1.give rfl (g_move rfl (.mk (v := .bool _) rfl rfl)) ?_)
    refine WL.wantG rfl rfl rfl rfl (WL1.give rfl (g_move rfl (.mk (v := .slice _ _ _) rfl rfl)) ?_)
    refine WL.wantG rfl rfl rfl rfl (WL1.lit (cs := [_, _, _, _, _, _]) elI rfl rfl rfl (.cons (.mk (v := .int _ _) rfl rfl) (.cons (.mk (v := .int _ _) rfl rfl) (.cons (.mk (v := .int _ _) rfl rfl) (.cons (.mk (v := .int _ _) rfl rfl) (.cons (.mk (v := .int _ _) rfl rfl) (.cons (.mk (v := .int _ _) rfl rfl) .nil)))))) rfl (by first | (simp [Value.cells]; done) | fail) rfl rfl (fun b63 => ?_))
    refine WL.wantG rfl rfl rfl rfl (WL1.callP rfl rfl rfl (.cons (.mk (v := .slice _ _ _) rfl rfl) (.cons (.mk (v := .slice _ _ _) rfl rfl) .nil)) (fun w hw => same_t (l := awL) (Sl.of_vec hw (.tail _ (.tail _ (.tail _ (.tail _ (.tail _ (.head _))))))) (Sl.of_vec hw (.head _)) rfl) ?_)
    refine WL.want rfl (WL1.give rfl (g_pickT rfl (.mk rfl rfl) (.mk (v := .bool _) rfl rfl)) ?_)
    refine WL.want rfl (WL1.give rfl (g_assign rfl (.mk (v := .bool _) rfl rfl)) ?_)
    refine WL.nil ?_
    (refine hK _ _ ?_; clear hK)
    refine WC.ret ?_
    exact fun w' hw' => ⟨rfl, hw'.1⟩
end
end Go.Proofs.Ytbofagfilohhfaa
