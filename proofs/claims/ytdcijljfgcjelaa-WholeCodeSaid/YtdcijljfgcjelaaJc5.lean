/- Texts joined: Dec6, Dec7, Dec8, Loc, Gg, Gj, Dec5, Dec9, Top8, Mks, Law, Open, Open2, OpenF, OpenG, Top9. The parts say what each of them proves. No condition. -/
import Derived.Test.YtdcijljfgcjelaaJc4
import Derived.ProofKit
import Derived.OpenShut
import Derived.Deep.Slices
import Derived.Deep.Fields
import Derived.Test.YtdcijljfgcjelaaRows
import Derived.Lib.SmallJoins
namespace Go.Proofs.Ytdcijljfgcjelaa
set_option maxRecDepth 20000
open Go.RowKit
attribute [local irreducible] Calls
theorem kvs_snoc (l : List Blk) (b : Blk) : kvs l ++ b.cells = kvs (l ++ [b]) := by simp [kvs]
theorem kvs_sing (b : Blk) : b.cells = kvs [b] := by simp [kvs]
set_option maxRecDepth 20000 in
set_option maxHeartbeats 4000000 in
theorem decode_c (vp vb : Value) (ps : List Blk) (bs : List Bool) (n : Nat) (w : World) (hp : Sl w 8 vp ps.length (kvs ps)) (hb : Sl w 1 vb bs.length (bls bs)) (h1 : 1 ≤ n) (h2 : n ≤ 13) (hpl : ps.length = n + 3) (hbl : bs.length = n + 3) :
    Calls Try.prog 8 #[vp, vb] w fun e w' => ∃ v' M, e = .returned v' ∧ H w M w' ∧ ((3 < cnt bs (n + 3) ∧ v' = .tuple #[.slice none 0 0, iv 12]) ∨ (cnt bs (n + 3) ≤ 3 ∧ ∃ A c, v' = .tuple #[.slice A (n + 3) c, iv 0] ∧ M = [vec A (n + 3) c 25 8 (kvs (decL ps bs n))])) := by
  obtain ⟨A, c, rfl, hcc, hm, hs⟩ := hp.open_
  obtain ⟨B, d, rfl, hcd, hmd, hsb⟩ := hb.open_
  obtain ⟨m, hmn⟩ : ∃ m, m = n + 3 := ⟨_, rfl⟩
  rw [← hmn] at hpl hbl ⊢
  have hsub : IntKind.i64.wrap ((m : Int) - 3) = (n : Int) := by rw [IntWalk.i64_in _ (by omega)]; omega
  have hpos : ∀ w', Calls Try.prog 26 #[iv m] w' fun e w2 => e = .returned (.bool true) ∧ Below w'.heap.size w' w2 := fun w' => by
    have := possible_i m w'
    rwa [decide_eq_true (by omega)] at this
  rw [hpl] at hs hcc
  rw [hbl] at hsb hcd
  rw [hpl, hbl]
  refine calls_wc (args := [.slice A m c, .slice B m d]) [4, 5] [] Try.func8 rfl Try.ntmps8 rfl rfl rfl rfl (H.refl w) ?_
  (refine WC.seq ?_; intro K hK)
  refine WC.region rfl ?_
  refine WL.want rfl (WL1.give rfl (g_assign rfl (.mk (v := .slice _ _ _) rfl rfl)) ?_)
  refine WL.want rfl (WL1.give rfl (g_assign rfl (.mk (v := .int _ _) rfl rfl)) ?_)
  refine WL.nil ?_
  (refine hK _ _ ?_; clear hK)
  (refine WC.seq ?_; intro K hK)
  refine WC.region rfl ?_
  refine WL.want rfl (WL1.give rfl (g_move rfl (.mk (v := .slice _ _ _) rfl rfl)) ?_)
  refine WL.want rfl (WL1.give rfl (g_len rfl (.mk rfl rfl) rfl) ?_)
  refine WL.want rfl (WL1.give rfl (g_assign rfl (.mk (v := .int _ _) rfl rfl)) ?_)
  refine WL.nil ?_
  (refine hK _ _ ?_; clear hK)
  (refine WC.seq ?_; intro K hK)
  (refine WC.seq ?_; intro K hK)
  refine WC.region rfl ?_
  refine WL.want rfl (WL1.give rfl (g_move rfl (.mk (v := .int _ _) rfl rfl)) ?_)
  refine WL.want rfl (WL1.callP rfl rfl rfl (.cons (.mk (v := .int _ _) rfl rfl) .nil) (fun w hw => hpos w) ?_)
  refine WL.want rfl (WL1.give rfl (g_notT rfl (.mk rfl rfl)) ?_)
  refine WL.want rfl (WL1.give rfl (g_move rfl (.mk (v := .bool _) rfl rfl)) ?_)
  refine WL.wantG rfl rfl rfl rfl (WL1.give rfl (g_move rfl (.mk (v := .slice _ _ _) rfl rfl)) ?_)
  refine WL.wantG rfl rfl rfl rfl (WL1.give rfl (g_len rfl (.mk rfl rfl) rfl) ?_)
  refine WL.wantG rfl rfl rfl rfl (WL1.give rfl (g_move rfl (.mk (v := .int _ _) rfl rfl)) ?_)
  refine WL.wantG rfl rfl rfl rfl (WL1.give rfl (g_ne rfl (.mk rfl rfl) (.mk rfl rfl) (decide_eq_false (by omega))) ?_)
  refine WL.want rfl (WL1.give rfl (g_pickF rfl (.mk rfl rfl) (.mk (v := .bool _) rfl rfl)) ?_)
  refine WL.nil ?_
  (refine hK _ _ ?_; clear hK)
  refine WC.cond_false (.mk rfl rfl) ?_
  refine WC.skip ?_
  (refine hK _ _ ?_; clear hK)
  (refine WC.seq ?_; intro K hK)
  refine WC.region rfl ?_
  refine WL.want rfl (WL1.give rfl (g_assign rfl (.mk (v := .slice _ _ _) rfl rfl)) ?_)
  refine WL.nil ?_
  (refine hK _ _ ?_; clear hK)
  (refine WC.seq ?_; intro K hK)
  refine WC.region rfl ?_
  refine WL.want rfl (WL1.give rfl (g_assign rfl (.mk (v := .slice _ _ _) rfl rfl)) ?_)
  refine WL.nil ?_
  (refine hK _ _ ?_; clear hK)
  (refine WC.seq ?_; intro K hK)
  (refine WC.seq ?_; intro K hK)
  refine WC.region rfl ?_
  refine WL.want rfl (WL1.give rfl (g_move rfl (.mk (v := .slice _ _ _) rfl rfl)) ?_)
  refine WL.want rfl (WL1.give rfl (g_len rfl (.mk rfl rfl) rfl) ?_)
  refine WL.want rfl (WL1.give rfl (g_move rfl (.mk (v := .int _ _) rfl rfl)) ?_)
  refine WL.nil ?_
  (refine hK _ _ ?_; clear hK)
  refine WC.block ?_
  refine WC.nilvec 3 1 (WC.nilvec 25 8 ?_)
  refine WC.loopF5 (fun (i : Nat) (F : Option Addr) (fc : Nat) (Y : Option Addr) (yc : Nat) => [(29, iv i), (7, .slice F (gdT bs n i).length fc), (8, .slice Y (gdT bs n i).length yc), (0, .slice A m c), (1, .slice B m d), (6, iv m), (27, .slice B m d), (28, iv m), (4, .slice none 0 0), (5, iv 0)]) (fun i F fc Y yc => [vec F (gdT bs n i).length fc 3 1 (ldv (gdT bs n i)), vec Y (gdT bs n i).length yc 25 8 (kvs ((gdT bs n i).map (nth ps)))]) (fun i _ _ _ _ => i ≤ m) (fun i _ _ _ _ => m - i) 0 none 0 none 0 (by repeat (first | exact trivial | refine ⟨rfl, ?_⟩)) (Imp.pick (A := vec none 0 0 3 1 []) (by repeat (first | exact .head | apply Take.tail)) (Imp.pick (A := vec none 0 0 25 8 []) (by repeat (first | exact .head | apply Take.tail)) (Imp.nil _))) (by omega) ?_
  intro i F fc Y yc U hi
  have hgl := gdT_len (bs := bs) (n := n) i
  obtain ⟨g, hg⟩ : ∃ g, g = gdT bs n i := ⟨_, rfl⟩
  rw [← hg] at hgl ⊢
  have hml : (g.map (nth ps)).length = g.length := by rw [List.length_map]
  by_cases hlt : i < m
  · have hgv := bls_get (l := bs) (k := i) (by omega)
    cases hbi : nth bs i with
    | true =>
      rw [hbi] at hgv
      have hst : gdT bs n (i + 1) = g := by rw [gdT_bad hbi, hg]
      (refine WC.seq ?_; intro K hK)
      refine WC.region rfl ?_
      refine WL.want rfl (WL1.give rfl (g_lt rfl (.mk rfl rfl) (.mk rfl rfl) (decide_eq_true (by omega))) ?_)
      refine WL.nil ?_
      (refine hK _ _ ?_; clear hK)
      (refine WC.seq ?_; intro K hK)
      refine WC.cond_true (.mk rfl rfl) ?_
      refine WC.skip ?_
      (refine hK _ _ ?_; clear hK)
      (refine WC.seq ?_; intro K hK)
      refine WC.block ?_
      (refine WC.seq ?_; intro K hK)
      refine WC.region rfl ?_
      refine WL.want rfl (WL1.give rfl (g_move rfl (.mk (v := .int _ _) rfl rfl)) ?_)
      refine WL.want rfl (WL1.give rfl (g_indexAddr (sz := 1) rfl (.mk rfl rfl) (.mk rfl rfl) rfl rfl rfl (by omega) (fun _ _ => sl_some hsb (by omega))) ?_)
      refine WL.want rfl (WL1.give rfl (g_load rfl (.mk rfl rfl) rfl (rd_sl hsb hgv)) ?_)
      refine WL.want rfl (WL1.give rfl (g_assign rfl (.mk (v := .int _ _) rfl rfl)) ?_)
      refine WL.want rfl (WL1.give rfl (g_assign rfl (.mk (v := .bool _) rfl rfl)) ?_)
      refine WL.nil ?_
      (refine hK _ _ ?_; clear hK)
      (refine WC.seq ?_; intro K hK)
      refine WC.region rfl ?_
      refine WL.want rfl (WL1.give rfl (g_move rfl (.mk (v := .bool _) rfl rfl)) ?_)
      refine WL.want rfl (WL1.give rfl (g_notT rfl (.mk rfl rfl)) ?_)
      refine WL.want rfl (WL1.give rfl (g_move rfl (.mk (v := .bool _) rfl rfl)) ?_)
      refine WL.skipG rfl rfl rfl rfl rfl rfl ?_
      refine WL.skipG rfl rfl rfl rfl rfl rfl ?_
      refine WL.skipG rfl rfl rfl rfl rfl rfl ?_
      refine WL.skipG rfl rfl rfl rfl rfl rfl ?_
      refine WL.skipG rfl rfl rfl rfl rfl rfl ?_
      refine WL.want rfl (WL1.give rfl (g_pickF rfl (.mk rfl rfl) (.mk (v := .bool _) rfl rfl)) ?_)
      refine WL.nil ?_
      (refine hK _ _ ?_; clear hK)
      refine WC.cond_false (.mk rfl rfl) ?_
      refine WC.skip ?_
      (refine hK _ _ ?_; clear hK)
      refine WC.region rfl ?_
      refine WL.want rfl (WL1.give rfl (g_add rfl (.mk rfl rfl) (.mk rfl rfl) (IntWalk.i64_in _ (by omega))) ?_)
      refine WL.want rfl (WL1.give rfl (g_move rfl (.mk (v := .int _ _) rfl rfl)) ?_)
      refine WL.nil ?_
      exact ⟨i + 1, F, fc, Y, yc, by rw [hst]; exact (by repeat (first | exact trivial | refine ⟨rfl, ?_⟩)), by rw [hst]; exact .refl _, by omega, by omega⟩
    | false =>
      rw [hbi] at hgv
      by_cases hfl : g.length < n
      · have hst : gdT bs n (i + 1) = g ++ [i] := by rw [gdT_take hbi (by rw [← hg]; exact hfl), hg]
        have hgd : ∀ j u, (nth ps i).cells[j]? = some u → (kvs ps)[i * 8 + j]? = some u := fun j u h => flat_row blk8 (by omega) j u h
        have hl1 : (g ++ [i]).length = g.length + 1 := by rw [List.length_append]; rfl
        have hmp : (g ++ [i]).map (nth ps) = g.map (nth ps) ++ [nth ps i] := by rw [List.map_append]; rfl
        have hbb : ∀ {w' : World} {L' : List Asrt} {b : Nat} (hw : H w L' w') (hm : vec (some ⟨b, 0, none⟩) 1 1 25 8 (nth ps i).cells ∈ L'), Sl w' 8 (.slice (some ⟨b, 0, none⟩) 1 1) 1 (nth ps i).cells := fun hw hm => Sl.of_vec hw hm
        (refine WC.seq ?_; intro K hK)
        refine WC.region rfl ?_
        refine WL.want rfl (WL1.give rfl (g_lt rfl (.mk rfl rfl) (.mk rfl rfl) (decide_eq_true (by omega))) ?_)
        refine WL.nil ?_
        (refine hK _ _ ?_; clear hK)
        (refine WC.seq ?_; intro K hK)
        refine WC.cond_true (.mk rfl rfl) ?_
        refine WC.skip ?_
        (refine hK _ _ ?_; clear hK)
        (refine WC.seq ?_; intro K hK)
        refine WC.block ?_
        (refine WC.seq ?_; intro K hK)
        refine WC.region rfl ?_
        refine WL.want rfl (WL1.give rfl (g_move rfl (.mk (v := .int _ _) rfl rfl)) ?_)
        refine WL.want rfl (WL1.give rfl (g_indexAddr (sz := 1) rfl (.mk rfl rfl) (.mk rfl rfl) rfl rfl rfl (by omega) (fun _ _ => sl_some hsb (by omega))) ?_)
        refine WL.want rfl (WL1.give rfl (g_load rfl (.mk rfl rfl) rfl (rd_sl hsb hgv)) ?_)
        refine WL.want rfl (WL1.give rfl (g_assign rfl (.mk (v := .int _ _) rfl rfl)) ?_)
        refine WL.want rfl (WL1.give rfl (g_assign rfl (.mk (v := .bool _) rfl rfl)) ?_)
        refine WL.nil ?_
        (refine hK _ _ ?_; clear hK)
        (refine WC.seq ?_; intro K hK)
        refine WC.region rfl ?_
        refine WL.want rfl (WL1.give rfl (g_move rfl (.mk (v := .bool _) rfl rfl)) ?_)
        refine WL.want rfl (WL1.give rfl (g_notF rfl (.mk rfl rfl)) ?_)
        refine WL.want rfl (WL1.give rfl (g_move rfl (.mk (v := .bool _) rfl rfl)) ?_)
        refine WL.wantG rfl rfl rfl rfl (WL1.give rfl (g_move rfl (.mk (v := .slice _ _ _) rfl rfl)) ?_)
        refine WL.wantG rfl rfl rfl rfl (WL1.give rfl (g_len rfl (.mk rfl rfl) rfl) ?_)
        refine WL.wantG rfl rfl rfl rfl (WL1.give rfl (g_move rfl (.mk (v := .int _ _) rfl rfl)) ?_)
        refine WL.wantG rfl rfl rfl rfl (WL1.give rfl (g_sub rfl (.mk rfl rfl) (.mk rfl rfl) hsub) ?_)
        refine WL.wantG rfl rfl rfl rfl (WL1.give rfl (g_lt rfl (.mk rfl rfl) (.mk rfl rfl) (decide_eq_true (by omega))) ?_)
        refine WL.want rfl (WL1.give rfl (g_pickT rfl (.mk rfl rfl) (.mk (v := .bool _) rfl rfl)) ?_)
        refine WL.nil ?_
        (refine hK _ _ ?_; clear hK)
        refine WC.cond_true (.mk rfl rfl) ?_
        refine WC.until [] [] rfl (by kernel_rfl) ?_
        refine WB.takeP 0 rfl (by decide +kernel) (by decide +kernel) (by decide +kernel) (by decide +kernel) rfl rfl (.inr (Imp.sub (by first | ((repeat (first | exact List.nil_sublist _ | exact List.Sublist.refl _ | apply List.Sublist.cons_cons | apply List.Sublist.cons)); done) | fail))) (g_move rfl (.mk (v := .slice _ _ _) rfl rfl)) ?_
        refine WB.takeP 1 rfl (by decide +kernel) (by decide +kernel) (by decide +kernel) (by decide +kernel) rfl rfl (.inr (Imp.sub (by first | ((repeat (first | exact List.nil_sublist _ | exact List.Sublist.refl _ | apply List.Sublist.cons_cons | apply List.Sublist.cons)); done) | fail))) (g_move rfl (.mk (v := .int _ _) rfl rfl)) ?_
        refine WB.takeP 4 rfl (by decide +kernel) (by decide +kernel) (by decide +kernel) (by decide +kernel) rfl rfl (.inr (Imp.sub (by first | ((repeat (first | exact List.nil_sublist _ | exact List.Sublist.refl _ | apply List.Sublist.cons_cons | apply List.Sublist.cons)); done) | fail))) (g_move rfl (.mk (v := .slice _ _ _) rfl rfl)) ?_
        refine WB.takeP 5 rfl (by decide +kernel) (by decide +kernel) (by decide +kernel) (by decide +kernel) rfl rfl (.inr (Imp.sub (by first | ((repeat (first | exact List.nil_sublist _ | exact List.Sublist.refl _ | apply List.Sublist.cons_cons | apply List.Sublist.cons)); done) | fail))) (g_move rfl (.mk (v := .slice _ _ _) rfl rfl)) ?_
        refine WB.takeP 6 rfl (by decide +kernel) (by decide +kernel) (by decide +kernel) (by decide +kernel) rfl rfl (.inr (Imp.sub (by first | ((repeat (first | exact List.nil_sublist _ | exact List.Sublist.refl _ | apply List.Sublist.cons_cons | apply List.Sublist.cons)); done) | fail))) (g_move rfl (.mk (v := .int _ _) rfl rfl)) ?_
        refine WB.takeP 7 rfl (by decide +kernel) (by decide +kernel) (by decide +kernel) (by decide +kernel) rfl rfl (.inr (Imp.sub (by first | ((repeat (first | exact List.nil_sublist _ | exact List.Sublist.refl _ | apply List.Sublist.cons_cons | apply List.Sublist.cons)); done) | fail))) (g_indexAddr (sz := 8) rfl (.mk rfl rfl) (.mk rfl rfl) rfl rfl rfl (by omega) (fun _ _ => sl_some hs (by omega))) ?_
        refine WB.take 8 rfl (by decide +kernel) (by decide +kernel) (by decide +kernel) (by decide +kernel) rfl rfl (Imp.sub (by first | ((repeat (first | exact List.nil_sublist _ | exact List.Sublist.refl _ | apply List.Sublist.cons_cons | apply List.Sublist.cons)); done) | fail)) (g_loadA rfl (.mk rfl rfl) rfl (sz8 _) (rdr_sl hs (by omega) hgd)) ?_
        refine WB.two 2 9 (by decide +kernel) rfl rfl rfl rfl ?_ ?_
        refine WL1.lit (cs := [_]) elI rfl rfl rfl (.cons (.mk (v := .int _ _) rfl rfl) .nil) rfl (by first | (simp [Value.cells]; done) | fail) rfl rfl (fun b45 => ?_)
        refine WL.nil ?_
        refine ⟨.inr (Imp.sub (by first | ((repeat (first | exact List.nil_sublist _ | exact List.Sublist.refl _ | apply List.Sublist.cons_cons | apply List.Sublist.cons)); done) | fail)), ?_⟩
        refine WB.two 3 9 (by decide +kernel) rfl rfl rfl rfl ?_ ?_
        refine WL1.append elI rfl rfl (.mk rfl rfl) (.mk rfl rfl) (.tail (.head)) (fun w hw => Sl.of_vec hw (.head _)) (all1 rfl) (by unfold maxLen; omega) (by omega) (fun A46 c46 => ?_)
        refine WL.nil ?_
        refine ⟨.inr (Imp.sub (by first | ((repeat (first | exact List.nil_sublist _ | exact List.Sublist.refl _ | apply List.Sublist.cons_cons | apply List.Sublist.cons)); done) | fail)), ?_⟩
        refine WB.one 9 (by decide +kernel) rfl rfl ?_
        refine WL1.lit elK rfl rfl rfl (.cons (.mk (v := .agg _) rfl rfl) .nil) rfl (by first | (simp [Value.cells, Blk.len]; done) | fail) (List.append_nil _) rfl (fun b52 => ?_)
        refine WL.nil ?_
        refine ⟨.inr (Imp.sub (by first | ((repeat (first | exact List.nil_sublist _ | exact List.Sublist.refl _ | apply List.Sublist.cons_cons | apply List.Sublist.cons)); done) | fail)), ?_⟩
        refine WB.one 10 (by decide +kernel) rfl rfl ?_
        refine WL1.append elK rfl rfl (.mk rfl rfl) (.mk rfl rfl) (.tail (.tail (.tail (.head)))) (fun w hw => Sl.of_vec hw (.head _)) (Blk.one _) (by unfold maxLen; omega) (by omega) (fun A53 c53 => ?_)
        refine WL.nil ?_
        refine ⟨.inr (Imp.sub (by first | ((repeat (first | exact List.nil_sublist _ | exact List.Sublist.refl _ | apply List.Sublist.cons_cons | apply List.Sublist.cons)); done) | fail)), ?_⟩
        refine WB.takeP 11 rfl (by decide +kernel) (by decide +kernel) (by decide +kernel) (by decide +kernel) rfl rfl (.inr (Imp.sub (by first | ((repeat (first | exact List.nil_sublist _ | exact List.Sublist.refl _ | apply List.Sublist.cons_cons | apply List.Sublist.cons)); done) | fail))) (g_assign rfl (.mk (v := .slice _ _ _) rfl rfl)) ?_
        refine WB.takeP 12 rfl (by decide +kernel) (by decide +kernel) (by decide +kernel) (by decide +kernel) rfl rfl (.inr (Imp.sub (by first | ((repeat (first | exact List.nil_sublist _ | exact List.Sublist.refl _ | apply List.Sublist.cons_cons | apply List.Sublist.cons)); done) | fail))) (g_assign rfl (.mk (v := .slice _ _ _) rfl rfl)) ?_
        refine WB.done (by decide +kernel) ?_
        (refine hK _ _ ?_; clear hK)
        refine WC.region rfl ?_
        refine WL.want rfl (WL1.give rfl (g_add rfl (.mk rfl rfl) (.mk rfl rfl) (IntWalk.i64_in _ (by omega))) ?_)
        refine WL.want rfl (WL1.give rfl (g_move rfl (.mk (v := .int _ _) rfl rfl)) ?_)
        refine WL.nil ?_
        rotate_left
        refine WL1.lit elK rfl rfl rfl (.cons (.mk (v := .agg _) rfl rfl) .nil) rfl (by first | (simp [Value.cells, Blk.len]; done) | fail) (List.append_nil _) rfl (fun b52 => ?_)
        refine WL.nil ?_
        refine ⟨.inr (Imp.sub (by first | ((repeat (first | exact List.nil_sublist _ | exact List.Sublist.refl _ | apply List.Sublist.cons_cons | apply List.Sublist.cons)); done) | fail)), ?_⟩
        refine WB.one 3 (by decide +kernel) rfl rfl ?_
        refine WL1.append elI rfl rfl (.mk rfl rfl) (.mk rfl rfl) (.tail (.tail (.head))) (fun w hw => Sl.of_vec hw (.tail _ (.head _))) (all1 rfl) (by unfold maxLen; omega) (by omega) (fun A46 c46 => ?_)
        refine WL.nil ?_
        refine ⟨.inr (Imp.sub (by first | ((repeat (first | exact List.nil_sublist _ | exact List.Sublist.refl _ | apply List.Sublist.cons_cons | apply List.Sublist.cons)); done) | fail)), ?_⟩
        refine WB.one 10 (by decide +kernel) rfl rfl ?_
        refine WL1.append elK rfl rfl (.mk rfl rfl) (.mk rfl rfl) (.tail (.tail (.tail (.head)))) (fun w hw => Sl.of_vec hw (.tail _ (.head _))) (Blk.one _) (by unfold maxLen; omega) (by omega) (fun A53 c53 => ?_)
        refine WL.nil ?_
        refine ⟨.inr (Imp.sub (by first | ((repeat (first | exact List.nil_sublist _ | exact List.Sublist.refl _ | apply List.Sublist.cons_cons | apply List.Sublist.cons)); done) | fail)), ?_⟩
        refine WB.takeP 11 rfl (by decide +kernel) (by decide +kernel) (by decide +kernel) (by decide +kernel) rfl rfl (.inr (Imp.sub (by first | ((repeat (first | exact List.nil_sublist _ | exact List.Sublist.refl _ | apply List.Sublist.cons_cons | apply List.Sublist.cons)); done) | fail))) (g_assign rfl (.mk (v := .slice _ _ _) rfl rfl)) ?_
        refine WB.takeP 12 rfl (by decide +kernel) (by decide +kernel) (by decide +kernel) (by decide +kernel) rfl rfl (.inr (Imp.sub (by first | ((repeat (first | exact List.nil_sublist _ | exact List.Sublist.refl _ | apply List.Sublist.cons_cons | apply List.Sublist.cons)); done) | fail))) (g_assign rfl (.mk (v := .slice _ _ _) rfl rfl)) ?_
        refine WB.done (by decide +kernel) ?_
        (refine hK _ _ ?_; clear hK)
        refine WC.region rfl ?_
        refine WL.want rfl (WL1.give rfl (g_add rfl (.mk rfl rfl) (.mk rfl rfl) (IntWalk.i64_in _ (by omega))) ?_)
        refine WL.want rfl (WL1.give rfl (g_move rfl (.mk (v := .int _ _) rfl rfl)) ?_)
        refine WL.nil ?_
        rotate_left
        refine WL1.lit elK rfl rfl rfl (.cons (.mk (v := .agg _) rfl rfl) .nil) rfl (by first | (simp [Value.cells, Blk.len]; done) | fail) (List.append_nil _) rfl (fun b52 => ?_)
        refine WL.nil ?_
        refine ⟨.inr (Imp.sub (by first | ((repeat (first | exact List.nil_sublist _ | exact List.Sublist.refl _ | apply List.Sublist.cons_cons | apply List.Sublist.cons)); done) | fail)), ?_⟩
        refine WB.one 2 (by decide +kernel) rfl rfl ?_
        refine WL1.lit (cs := [_]) elI rfl rfl rfl (.cons (.mk (v := .int _ _) rfl rfl) .nil) rfl (by first | (simp [Value.cells]; done) | fail) rfl rfl (fun b45 => ?_)
        refine WL.nil ?_
        refine ⟨.inr (Imp.sub (by first | ((repeat (first | exact List.nil_sublist _ | exact List.Sublist.refl _ | apply List.Sublist.cons_cons | apply List.Sublist.cons)); done) | fail)), ?_⟩
        refine WB.one 3 (by decide +kernel) rfl rfl ?_
        refine WL1.append elI rfl rfl (.mk rfl rfl) (.mk rfl rfl) (.tail (.tail (.head))) (fun w hw => Sl.of_vec hw (.head _)) (all1 rfl) (by unfold maxLen; omega) (by omega) (fun A46 c46 => ?_)
        refine WL.nil ?_
        refine ⟨.inr (Imp.sub (by first | ((repeat (first | exact List.nil_sublist _ | exact List.Sublist.refl _ | apply List.Sublist.cons_cons | apply List.Sublist.cons)); done) | fail)), ?_⟩
        refine WB.one 10 (by decide +kernel) rfl rfl ?_
        refine WL1.append elK rfl rfl (.mk rfl rfl) (.mk rfl rfl) (.tail (.tail (.tail (.head)))) (fun w hw => Sl.of_vec hw (.tail _ (.tail _ (.head _)))) (Blk.one _) (by unfold maxLen; omega) (by omega) (fun A53 c53 => ?_)
        refine WL.nil ?_
        refine ⟨.inr (Imp.sub (by first | ((repeat (first | exact List.nil_sublist _ | exact List.Sublist.refl _ | apply List.Sublist.cons_cons | apply List.Sublist.cons)); done) | fail)), ?_⟩
        refine WB.takeP 11 rfl (by decide +kernel) (by decide +kernel) (by decide +kernel) (by decide +kernel) rfl rfl (.inr (Imp.sub (by first | ((repeat (first | exact List.nil_sublist _ | exact List.Sublist.refl _ | apply List.Sublist.cons_cons | apply List.Sublist.cons)); done) | fail))) (g_assign rfl (.mk (v := .slice _ _ _) rfl rfl)) ?_
        refine WB.takeP 12 rfl (by decide +kernel) (by decide +kernel) (by decide +kernel) (by decide +kernel) rfl rfl (.inr (Imp.sub (by first | ((repeat (first | exact List.nil_sublist _ | exact List.Sublist.refl _ | apply List.Sublist.cons_cons | apply List.Sublist.cons)); done) | fail))) (g_assign rfl (.mk (v := .slice _ _ _) rfl rfl)) ?_
        refine WB.done (by decide +kernel) ?_
        (refine hK _ _ ?_; clear hK)
        refine WC.region rfl ?_
        refine WL.want rfl (WL1.give rfl (g_add rfl (.mk rfl rfl) (.mk rfl rfl) (IntWalk.i64_in _ (by omega))) ?_)
        refine WL.want rfl (WL1.give rfl (g_move rfl (.mk (v := .int _ _) rfl rfl)) ?_)
        refine WL.nil ?_
        rotate_left
        all_goals refine ⟨i + 1, A46, c46, A53, c53, by rw [hst, hl1]; exact (by repeat (first | exact trivial | refine ⟨rfl, ?_⟩)), ?_, by omega, by omega⟩
        all_goals rw [hst, hl1, hmp, ← ldv_snoc, ← kvs_snoc]
        all_goals exact Imp.pick (by repeat (first | exact .head | apply Take.tail)) (Imp.pick (by repeat (first | exact .head | apply Take.tail)) (Imp.nil _))
      · have hst : gdT bs n (i + 1) = g := by rw [gdT_over (by rw [← hg]; exact hfl), hg]
        (refine WC.seq ?_; intro K hK)
        refine WC.region rfl ?_
        refine WL.want rfl (WL1.give rfl (g_lt rfl (.mk rfl rfl) (.mk rfl rfl) (decide_eq_true (by omega))) ?_)
        refine WL.nil ?_
        (refine hK _ _ ?_; clear hK)
        (refine WC.seq ?_; intro K hK)
        refine WC.cond_true (.mk rfl rfl) ?_
        refine WC.skip ?_
        (refine hK _ _ ?_; clear hK)
        (refine WC.seq ?_; intro K hK)
        refine WC.block ?_
        (refine WC.seq ?_; intro K hK)
        refine WC.region rfl ?_
        refine WL.want rfl (WL1.give rfl (g_move rfl (.mk (v := .int _ _) rfl rfl)) ?_)
        refine WL.want rfl (WL1.give rfl (g_indexAddr (sz := 1) rfl (.mk rfl rfl) (.mk rfl rfl) rfl rfl rfl (by omega) (fun _ _ => sl_some hsb (by omega))) ?_)
        refine WL.want rfl (WL1.give rfl (g_load rfl (.mk rfl rfl) rfl (rd_sl hsb hgv)) ?_)
        refine WL.want rfl (WL1.give rfl (g_assign rfl (.mk (v := .int _ _) rfl rfl)) ?_)
        refine WL.want rfl (WL1.give rfl (g_assign rfl (.mk (v := .bool _) rfl rfl)) ?_)
        refine WL.nil ?_
        (refine hK _ _ ?_; clear hK)
        (refine WC.seq ?_; intro K hK)
        refine WC.region rfl ?_
        refine WL.want rfl (WL1.give rfl (g_move rfl (.mk (v := .bool _) rfl rfl)) ?_)
        refine WL.want rfl (WL1.give rfl (g_notF rfl (.mk rfl rfl)) ?_)
        refine WL.want rfl (WL1.give rfl (g_move rfl (.mk (v := .bool _) rfl rfl)) ?_)
        refine WL.wantG rfl rfl rfl rfl (WL1.give rfl (g_move rfl (.mk (v := .slice _ _ _) rfl rfl)) ?_)
        refine WL.wantG rfl rfl rfl rfl (WL1.give rfl (g_len rfl (.mk rfl rfl) rfl) ?_)
        refine WL.wantG rfl rfl rfl rfl (WL1.give rfl (g_move rfl (.mk (v := .int _ _) rfl rfl)) ?_)
        refine WL.wantG rfl rfl rfl rfl (WL1.give rfl (g_sub rfl (.mk rfl rfl) (.mk rfl rfl) hsub) ?_)
        refine WL.wantG rfl rfl rfl rfl (WL1.give rfl (g_lt rfl (.mk rfl rfl) (.mk rfl rfl) (decide_eq_false (by omega))) ?_)
        refine WL.want rfl (WL1.give rfl (g_pickT rfl (.mk rfl rfl) (.mk (v := .bool _) rfl rfl)) ?_)
        refine WL.nil ?_
        (refine hK _ _ ?_; clear hK)
        refine WC.cond_false (.mk rfl rfl) ?_
        refine WC.skip ?_
        (refine hK _ _ ?_; clear hK)
        refine WC.region rfl ?_
        refine WL.want rfl (WL1.give rfl (g_add rfl (.mk rfl rfl) (.mk rfl rfl) (IntWalk.i64_in _ (by omega))) ?_)
        refine WL.want rfl (WL1.give rfl (g_move rfl (.mk (v := .int _ _) rfl rfl)) ?_)
        refine WL.nil ?_
        exact ⟨i + 1, F, fc, Y, yc, by rw [hst]; exact (by repeat (first | exact trivial | refine ⟨rfl, ?_⟩)), by rw [hst]; exact .refl _, by omega, by omega⟩
  · obtain rfl : i = m := by omega
    have hcl := cnt_le (bs := bs) i
    by_cases hfl : g.length < n
    · (refine WC.seq ?_; intro K hK)
      refine WC.region rfl ?_
      refine WL.want rfl (WL1.give rfl (g_lt rfl (.mk rfl rfl) (.mk rfl rfl) (decide_eq_false (by omega))) ?_)
      refine WL.nil ?_
      (refine hK _ _ ?_; clear hK)
      (refine WC.seq ?_; intro K hK)
      refine WC.cond_false (.mk rfl rfl) ?_
      refine WC.exit ?_
      (clear hK; refine hK _ _ ?_; clear hK)
      (refine WC.seq ?_; intro K hK)
      (refine WC.seq ?_; intro K hK)
      refine WC.region rfl ?_
      refine WL.want rfl (WL1.give rfl (g_move rfl (.mk (v := .slice _ _ _) rfl rfl)) ?_)
      refine WL.want rfl (WL1.give rfl (g_len rfl (.mk rfl rfl) rfl) ?_)
      refine WL.want rfl (WL1.give rfl (g_move rfl (.mk (v := .int _ _) rfl rfl)) ?_)
      refine WL.want rfl (WL1.give rfl (g_sub rfl (.mk rfl rfl) (.mk rfl rfl) hsub) ?_)
      refine WL.want rfl (WL1.give rfl (g_lt rfl (.mk rfl rfl) (.mk rfl rfl) (decide_eq_true (by omega))) ?_)
      refine WL.nil ?_
      (refine hK _ _ ?_; clear hK)
      refine WC.cond_true (.mk rfl rfl) ?_
      (refine WC.seq ?_; intro K hK)
      refine WC.region rfl ?_
      refine WL.want rfl (WL1.give rfl (g_assign rfl (.mk (v := .slice _ _ _) rfl rfl)) ?_)
      refine WL.want rfl (WL1.give rfl (g_assign rfl (.mk (v := .int _ _) rfl rfl)) ?_)
      refine WL.nil ?_
      (refine hK _ _ ?_; clear hK)
      refine WC.ret ?_
      exact fun w' hw' => ⟨_, _, rfl, hw', .inl ⟨by omega, rfl⟩⟩
    · have hc3 : cnt bs (n + 3) ≤ 3 := by rw [← hmn]; omega
      have hgn : g.length = n := by omega
      have hw := gdT_wfr hc3
      rw [← hmn, ← hg] at hw
      have hcln : ∀ w', Below w.heap.size w w' → Calls Try.prog 27 #[.slice A i c] w' fun e w2 => ∃ v' M, e = .returned v' ∧ H w' M w2 ∧ ∃ A c, v' = .slice A i c ∧ M = [vec A i c 25 8 (kvs (decP ps bs n 0))] := fun w' hb => by
        have := clone_n (.slice A i c) ps w' (by rw [hpl]; exact hs.below hb) (by omega) (by omega)
        rwa [hpl, ← decP_zero (bs := bs) (by omega : ps.length = n + 3)] at this
      rw [hgn]
      (refine WC.seq ?_; intro K hK)
      refine WC.region rfl ?_
      refine WL.want rfl (WL1.give rfl (g_lt rfl (.mk rfl rfl) (.mk rfl rfl) (decide_eq_false (by omega))) ?_)
      refine WL.nil ?_
      (refine hK _ _ ?_; clear hK)
      (refine WC.seq ?_; intro K hK)
      refine WC.cond_false (.mk rfl rfl) ?_
      refine WC.exit ?_
      (clear hK; refine hK _ _ ?_; clear hK)
      (refine WC.seq ?_; intro K hK)
      (refine WC.seq ?_; intro K hK)
      refine WC.region rfl ?_
      refine WL.want rfl (WL1.give rfl (g_move rfl (.mk (v := .slice _ _ _) rfl rfl)) ?_)
      refine WL.want rfl (WL1.give rfl (g_len rfl (.mk rfl rfl) rfl) ?_)
      refine WL.want rfl (WL1.give rfl (g_move rfl (.mk (v := .int _ _) rfl rfl)) ?_)
      refine WL.want rfl (WL1.give rfl (g_sub rfl (.mk rfl rfl) (.mk rfl rfl) hsub) ?_)
      refine WL.want rfl (WL1.give rfl (g_lt rfl (.mk rfl rfl) (.mk rfl rfl) (decide_eq_false (by omega))) ?_)
      refine WL.nil ?_
      (refine hK _ _ ?_; clear hK)
      refine WC.cond_false (.mk rfl rfl) ?_
      refine WC.skip ?_
      (refine hK _ _ ?_; clear hK)
      (refine WC.seq ?_; intro K hK)
      refine WC.region rfl ?_
      refine WL.want rfl (WL1.give rfl (g_move rfl (.mk (v := .slice _ _ _) rfl rfl)) ?_)
      (refine WL.want rfl (WL1.callN rfl rfl rfl (.cons (.mk (v := .slice _ _ _) rfl rfl) .nil) (fun w hw => hcln w hw.1) ?_); rintro _ _ ⟨Ac, cc, rfl, rfl⟩)
      refine WL.want rfl (WL1.give rfl (g_assign rfl (.mk (v := .slice _ _ _) rfl rfl)) ?_)
      refine WL.nil ?_
      (refine hK _ _ ?_; clear hK)
      (refine WC.seq ?_; intro K hK)
      (refine WC.seq ?_; intro K hK)
      refine WC.region rfl ?_
      refine WL.want rfl (WL1.give rfl (g_move rfl (.mk (v := .slice _ _ _) rfl rfl)) ?_)
      refine WL.want rfl (WL1.give rfl (g_len rfl (.mk rfl rfl) rfl) ?_)
      refine WL.want rfl (WL1.give rfl (g_move rfl (.mk (v := .int _ _) rfl rfl)) ?_)
      refine WL.nil ?_
      (refine hK _ _ ?_; clear hK)
      refine WC.block ?_
      refine WC.loopF (fun j : Nat => [(64, iv j), (6, iv i), (7, .slice F n fc), (8, .slice Y n yc), (11, .slice Ac i cc), (62, .slice B i d), (63, iv i), (4, .slice none 0 0), (5, iv 0)]) (fun j => [vec Ac i cc 25 8 (kvs (decP ps bs n j)), vec F n fc 3 1 (ldv g), vec Y n yc 25 8 (kvs (g.map (nth ps)))]) (fun j => j ≤ i) (fun j => i - j) 0 (by repeat (first | exact trivial | refine ⟨rfl, ?_⟩)) (.refl _) (by omega) ?_
      intro j V hj
      have hdl := decP_len ps bs n j
      have hkl : (kvs (decP ps bs n j)).length = i * 8 := by rw [kvs_len, hdl, hmn]
      by_cases hlt2 : j < i
      · have hgv := bls_get (l := bs) (k := j) (by omega)
        cases hbj : nth bs j with
        | false =>
          rw [hbj] at hgv
          (refine WC.seq ?_; intro K hK)
          refine WC.region rfl ?_
          refine WL.want rfl (WL1.give rfl (g_lt rfl (.mk rfl rfl) (.mk rfl rfl) (decide_eq_true (by omega))) ?_)
          refine WL.nil ?_
          (refine hK _ _ ?_; clear hK)
          (refine WC.seq ?_; intro K hK)
          refine WC.cond_true (.mk rfl rfl) ?_
          refine WC.skip ?_
          (refine hK _ _ ?_; clear hK)
          (refine WC.seq ?_; intro K hK)
          refine WC.block ?_
          (refine WC.seq ?_; intro K hK)
          refine WC.region rfl ?_
          refine WL.want rfl (WL1.give rfl (g_move rfl (.mk (v := .int _ _) rfl rfl)) ?_)
          refine WL.want rfl (WL1.give rfl (g_indexAddr (sz := 1) rfl (.mk rfl rfl) (.mk rfl rfl) rfl rfl rfl (by omega) (fun _ _ => sl_some hsb (by omega))) ?_)
          refine WL.want rfl (WL1.give rfl (g_load rfl (.mk rfl rfl) rfl (rd_sl hsb hgv)) ?_)
          refine WL.want rfl (WL1.give rfl (g_assign rfl (.mk (v := .int _ _) rfl rfl)) ?_)
          refine WL.want rfl (WL1.give rfl (g_assign rfl (.mk (v := .bool _) rfl rfl)) ?_)
          refine WL.nil ?_
          (refine hK _ _ ?_; clear hK)
          (refine WC.seq ?_; intro K hK)
          (refine WC.seq ?_; intro K hK)
          refine WC.region rfl ?_
          refine WL.want rfl (WL1.give rfl (g_move rfl (.mk (v := .bool _) rfl rfl)) ?_)
          refine WL.want rfl (WL1.give rfl (g_notF rfl (.mk rfl rfl)) ?_)
          refine WL.nil ?_
          (refine hK _ _ ?_; clear hK)
          refine WC.cond_true (.mk rfl rfl) ?_
          refine WC.exit ?_
          (clear hK; refine hK _ _ ?_; clear hK)
          refine WC.region rfl ?_
          refine WL.want rfl (WL1.give rfl (g_add rfl (.mk rfl rfl) (.mk rfl rfl) (IntWalk.i64_in _ (by omega))) ?_)
          refine WL.want rfl (WL1.give rfl (g_move rfl (.mk (v := .int _ _) rfl rfl)) ?_)
          refine WL.nil ?_
          exact ⟨j + 1, (by repeat (first | exact trivial | refine ⟨rfl, ?_⟩)), by rw [decP_skip (by rw [hbj]; exact Bool.false_ne_true)]; exact .refl _, by omega, by omega⟩
        | true =>
          rw [hbj] at hgv
          have hwt : ∀ w', Sl w' 1 (.slice F n fc) n (ldv g) → Calls Try.prog 11 #[iv i, .slice F n fc, iv j] w' fun e w2 => ∃ v' M, e = .returned v' ∧ H w' M w2 ∧ ∃ A c, v' = .tuple #[.slice A n c, iv 0] ∧ M = [vec A n c 5 1 (bvs (wts n g j))] := fun w' h => weights_n _ i n j g w' (by rw [hgn]; exact h) hmn h1 h2 hw hlt2
          have hwl := wts_len n g j
          have hcb : ∀ (v1 : Value) (w' : World), Sl w' 1 v1 n (bvs (wts n g j)) → Sl w' 8 (.slice Y n yc) n (kvs (g.map (nth ps))) → Calls Try.prog 12 #[v1, .slice Y n yc] w' fun e w2 => e = .returned (.tuple #[kv (comb (wts n g j) (g.map (nth ps)) n), iv 0]) ∧ Below w'.heap.size w' w2 := fun v1 w' q1 q2 => by
            have := combine_e v1 (.slice Y n yc) (wts n g j) (g.map (nth ps)) w' (by rw [hwl]; exact q1) (by rw [hml, hgn]; exact q2) (by rw [hwl, hml, hgn]) (by omega)
            rwa [hwl] at this
          have hset : (decP ps bs n j).set j (comb (wts n g j) (g.map (nth ps)) n) = decP ps bs n (j + 1) := by
            have := decP_set (ps := ps) (bs := bs) (n := n) (j := j) (by omega) hbj
            rwa [← hmn, ← hg] at this
          have hsp : ∀ i0 v0, i0 = j * 8 → v0 = (comb (wts n g j) (g.map (nth ps)) n).cells → spl (kvs (decP ps bs n j)) i0 v0 = kvs (decP ps bs n (j + 1)) := fun i0 v0 h h' => (kvs_spl (by omega) h h').trans (congrArg kvs hset)
          (refine WC.seq ?_; intro K hK)
          refine WC.region rfl ?_
          refine WL.want rfl (WL1.give rfl (g_lt rfl (.mk rfl rfl) (.mk rfl rfl) (decide_eq_true (by omega))) ?_)
          refine WL.nil ?_
          (refine hK _ _ ?_; clear hK)
          (refine WC.seq ?_; intro K hK)
          refine WC.cond_true (.mk rfl rfl) ?_
          refine WC.skip ?_
          (refine hK _ _ ?_; clear hK)
          (refine WC.seq ?_; intro K hK)
          refine WC.block ?_
          (refine WC.seq ?_; intro K hK)
          refine WC.region rfl ?_
          refine WL.want rfl (WL1.give rfl (g_move rfl (.mk (v := .int _ _) rfl rfl)) ?_)
          refine WL.want rfl (WL1.give rfl (g_indexAddr (sz := 1) rfl (.mk rfl rfl) (.mk rfl rfl) rfl rfl rfl (by omega) (fun _ _ => sl_some hsb (by omega))) ?_)
          refine WL.want rfl (WL1.give rfl (g_load rfl (.mk rfl rfl) rfl (rd_sl hsb hgv)) ?_)
          refine WL.want rfl (WL1.give rfl (g_assign rfl (.mk (v := .int _ _) rfl rfl)) ?_)
          refine WL.want rfl (WL1.give rfl (g_assign rfl (.mk (v := .bool _) rfl rfl)) ?_)
          refine WL.nil ?_
          (refine hK _ _ ?_; clear hK)
          (refine WC.seq ?_; intro K hK)
          (refine WC.seq ?_; intro K hK)
          refine WC.region rfl ?_
          refine WL.want rfl (WL1.give rfl (g_move rfl (.mk (v := .bool _) rfl rfl)) ?_)
          refine WL.want rfl (WL1.give rfl (g_notT rfl (.mk rfl rfl)) ?_)
          refine WL.nil ?_
          (refine hK _ _ ?_; clear hK)
          refine WC.cond_false (.mk rfl rfl) ?_
          refine WC.skip ?_
          (refine hK _ _ ?_; clear hK)
          (refine WC.seq ?_; intro K hK)
          refine WC.region rfl ?_
          refine WL.want rfl (WL1.give rfl (g_move rfl (.mk (v := .int _ _) rfl rfl)) ?_)
          refine WL.want rfl (WL1.give rfl (g_move rfl (.mk (v := .slice _ _ _) rfl rfl)) ?_)
          refine WL.want rfl (WL1.give rfl (g_move rfl (.mk (v := .int _ _) rfl rfl)) ?_)
          (refine WL.want rfl (WL1.callN rfl rfl rfl (.cons (.mk (v := .int _ _) rfl rfl) (.cons (.mk (v := .slice _ _ _) rfl rfl) (.cons (.mk (v := .int _ _) rfl rfl) .nil))) (fun w hw => hwt w (Sl.of_vec hw (by repeat (first | exact .head _ | apply List.Mem.tail)))) ?_); rintro _ _ ⟨Aw, cw, rfl, rfl⟩)
          refine WL.want rfl (WL1.give rfl (g_move rfl (.mk (v := .tuple _) rfl rfl)) ?_)
          refine WL.want rfl (WL1.give rfl (g_extract rfl (.mk rfl rfl) rfl) ?_)
          refine WL.want rfl (WL1.give rfl (g_extract rfl (.mk rfl rfl) rfl) ?_)
          refine WL.want rfl (WL1.give rfl (g_assign rfl (.mk (v := .slice _ _ _) rfl rfl)) ?_)
          refine WL.want rfl (WL1.give rfl (g_assign rfl (.mk (v := .int _ _) rfl rfl)) ?_)
          refine WL.nil ?_
          (refine hK _ _ ?_; clear hK)
          (refine WC.seq ?_; intro K hK)
          (refine WC.seq ?_; intro K hK)
          refine WC.region rfl ?_
          refine WL.want rfl (WL1.give rfl (g_move rfl (.mk (v := .int _ _) rfl rfl)) ?_)
          refine WL.want rfl (WL1.give rfl (g_ne rfl (.mk rfl rfl) (.mk rfl rfl) (decide_eq_false (by omega))) ?_)
          refine WL.nil ?_
          (refine hK _ _ ?_; clear hK)
          refine WC.cond_false (.mk rfl rfl) ?_
          refine WC.skip ?_
          (refine hK _ _ ?_; clear hK)
          refine WC.region rfl ?_
          refine WL.want rfl (WL1.give rfl (g_move rfl (.mk (v := .slice _ _ _) rfl rfl)) ?_)
          refine WL.want rfl (WL1.give rfl (g_move rfl (.mk (v := .int _ _) rfl rfl)) ?_)
          refine WL.want rfl (WL1.give rfl (g_move rfl (.mk (v := .slice _ _ _) rfl rfl)) ?_)
          refine WL.want rfl (WL1.give rfl (g_move rfl (.mk (v := .slice _ _ _) rfl rfl)) ?_)
          refine WL.want rfl (WL1.callP rfl rfl rfl (.cons (.mk (v := .slice _ _ _) rfl rfl) (.cons (.mk (v := .slice _ _ _) rfl rfl) .nil)) (fun w hw => hcb _ w (Sl.of_vec hw (by repeat (first | exact .head _ | apply List.Mem.tail))) (Sl.of_vec hw (by repeat (first | exact .head _ | apply List.Mem.tail)))) ?_)
          refine WL.want rfl (WL1.give rfl (g_move rfl (.mk (v := .tuple _) rfl rfl)) ?_)
          refine WL.want rfl (WL1.give rfl (g_extract rfl (.mk rfl rfl) rfl) ?_)
          refine WL.want rfl (WL1.give rfl (g_extract rfl (.mk rfl rfl) rfl) ?_)
          refine WL.want rfl (WL1.give rfl (g_indexAddr (sz := 8) rfl (.mk rfl rfl) (.mk rfl rfl) rfl rfl rfl (by omega) (fun w hw => vec_some hw (.tail _ (.head _)) (by omega))) ?_)
          refine WL.want rfl (WL1.storeVA rfl rfl (.mk rfl rfl) (.mk rfl rfl) (sz8 _) (Blk.one _) (by first | decide | omega | exact Nat.le_of_ble_eq_true rfl | (simp; done) | (simp; omega) | (rw [Blk.len]; omega)) (by first | omega | (rw [Blk.len]; omega) | (simp; done) | (simp; omega)) (.tail (.head)) ?_)
          refine WL.nil ?_
          (refine hK _ _ ?_; clear hK)
          refine WC.region rfl ?_
          refine WL.want rfl (WL1.give rfl (g_add rfl (.mk rfl rfl) (.mk rfl rfl) (IntWalk.i64_in _ (by omega))) ?_)
          refine WL.want rfl (WL1.give rfl (g_move rfl (.mk (v := .int _ _) rfl rfl)) ?_)
          refine WL.nil ?_
          refine ⟨j + 1, (by repeat (first | exact trivial | refine ⟨rfl, ?_⟩)), ?_, by omega, by omega⟩
          rw [hsp]
          · exact Imp.pick (by repeat (first | exact .head | apply Take.tail)) (Imp.pick (by repeat (first | exact .head | apply Take.tail)) (Imp.pick (by repeat (first | exact .head | apply Take.tail)) (Imp.nil _)))
          · omega
          · rfl
      · obtain rfl : j = i := by omega
        have hfin : decP ps bs n j = decL ps bs n := by rw [decL, hmn]
        rw [hfin]
        (refine WC.seq ?_; intro K hK)
        refine WC.region rfl ?_
        refine WL.want rfl (WL1.give rfl (g_lt rfl (.mk rfl rfl) (.mk rfl rfl) (decide_eq_false (by omega))) ?_)
        refine WL.nil ?_
        (refine hK _ _ ?_; clear hK)
        (refine WC.seq ?_; intro K hK)
        refine WC.cond_false (.mk rfl rfl) ?_
        refine WC.exit ?_
        (clear hK; refine hK _ _ ?_; clear hK)
        (refine WC.seq ?_; intro K hK)
        refine WC.region rfl ?_
        refine WL.want rfl (WL1.give rfl (g_move rfl (.mk (v := .slice _ _ _) rfl rfl)) ?_)
        refine WL.want rfl (WL1.give rfl (g_assign rfl (.mk (v := .slice _ _ _) rfl rfl)) ?_)
        refine WL.want rfl (WL1.give rfl (g_assign rfl (.mk (v := .int _ _) rfl rfl)) ?_)
        refine WL.nil ?_
        (refine hK _ _ ?_; clear hK)
        refine WC.ret ?_
        exact fun w' hw' => ⟨_, _, rfl, hw'.sub (.cons_cons _ (.cons _ (.cons _ .slnil))), .inr ⟨by rw [hmn]; exact hc3, Ac, cc, rfl, rfl⟩⟩
set_option maxRecDepth 20000 in
set_option maxHeartbeats 1000000 in
theorem decode_bad (vp vb : Value) (ps : List Blk) (bs : List Bool) (w : World) (hp : Sl w 8 vp ps.length (kvs ps)) (hb : Sl w 1 vb bs.length (bls bs)) (h : ¬ (4 ≤ ps.length ∧ ps.length ≤ 16 ∧ bs.length = ps.length)) :
    Calls Try.prog 8 #[vp, vb] w fun e w' => e = .returned (.tuple #[.slice none 0 0, iv 1]) ∧ Below w.heap.size w w' := by
  obtain ⟨A, c, rfl, hcc, hm, hs⟩ := hp.open_
  obtain ⟨B, d, rfl, hcd, hmd, hsb⟩ := hb.open_
  have hpos := fun w' => possible_i (ps.length : Int) w'
  by_cases hq : 4 ≤ ps.length ∧ ps.length ≤ 16
  · rw [decide_eq_true (by omega)] at hpos
    refine calls_wc (args := [.slice A ps.length c, .slice B bs.length d]) [4, 5] [] Try.func8 rfl Try.ntmps8 rfl rfl rfl rfl (H.refl w) ?_
    (refine WC.seq ?_; intro K hK)
    refine WC.region rfl ?_
    refine WL.want rfl (WL1.give rfl (g_assign rfl (.mk (v := .slice _ _ _) rfl rfl)) ?_)
    refine WL.want rfl (WL1.give rfl (g_assign rfl (.mk (v := .int _ _) rfl rfl)) ?_)
    refine WL.nil ?_
    (refine hK _ _ ?_; clear hK)
    (refine WC.seq ?_; intro K hK)
    refine WC.region rfl ?_
    refine WL.want rfl (WL1.give rfl (g_move rfl (.mk (v := .slice _ _ _) rfl rfl)) ?_)
    refine WL.want rfl (WL1.give rfl (g_len rfl (.mk rfl rfl) rfl) ?_)
    refine WL.want rfl (WL1.give rfl (g_assign rfl (.mk (v := .int _ _) rfl rfl)) ?_)
    refine WL.nil ?_
    (refine hK _ _ ?_; clear hK)
    (refine WC.seq ?_; intro K hK)
    (refine WC.seq ?_; intro K hK)
    refine WC.region rfl ?_
    refine WL.want rfl (WL1.give rfl (g_move rfl (.mk (v := .int _ _) rfl rfl)) ?_)
    refine WL.want rfl (WL1.callP rfl rfl rfl (.cons (.mk (v := .int _ _) rfl rfl) .nil) (fun w hw => hpos w) ?_)
    refine WL.want rfl (WL1.give rfl (g_notT rfl (.mk rfl rfl)) ?_)
    refine WL.want rfl (WL1.give rfl (g_move rfl (.mk (v := .bool _) rfl rfl)) ?_)
    refine WL.wantG rfl rfl rfl rfl (WL1.give rfl (g_move rfl (.mk (v := .slice _ _ _) rfl rfl)) ?_)
    refine WL.wantG rfl rfl rfl rfl (WL1.give rfl (g_len rfl (.mk rfl rfl) rfl) ?_)
    refine WL.wantG rfl rfl rfl rfl (WL1.give rfl (g_move rfl (.mk (v := .int _ _) rfl rfl)) ?_)
    refine WL.wantG rfl rfl rfl rfl (WL1.give rfl (g_ne rfl (.mk rfl rfl) (.mk rfl rfl) (decide_eq_true (by omega))) ?_)
    refine WL.want rfl (WL1.give rfl (g_pickF rfl (.mk rfl rfl) (.mk (v := .bool _) rfl rfl)) ?_)
    refine WL.nil ?_
    (refine hK _ _ ?_; clear hK)
    refine WC.cond_true (.mk rfl rfl) ?_
    (refine WC.seq ?_; intro K hK)
    refine WC.region rfl ?_
    refine WL.want rfl (WL1.give rfl (g_assign rfl (.mk (v := .slice _ _ _) rfl rfl)) ?_)
    refine WL.want rfl (WL1.give rfl (g_assign rfl (.mk (v := .int _ _) rfl rfl)) ?_)
    refine WL.nil ?_
    (refine hK _ _ ?_; clear hK)
    refine WC.ret ?_
    exact fun w' hw' => ⟨rfl, hw'.1⟩
  · rw [decide_eq_false (by omega)] at hpos
    refine calls_wc (args := [.slice A ps.length c, .slice B bs.length d]) [4, 5] [] Try.func8 rfl Try.ntmps8 rfl rfl rfl rfl (H.refl w) ?_
    (refine WC.seq ?_; intro K hK)
    refine WC.region rfl ?_
    refine WL.want rfl (WL1.give rfl (g_assign rfl (.mk (v := .slice _ _ _) rfl rfl)) ?_)
    refine WL.want rfl (WL1.give rfl (g_assign rfl (.mk (v := .int _ _) rfl rfl)) ?_)
    refine WL.nil ?_
    (refine hK _ _ ?_; clear hK)
    (refine WC.seq ?_; intro K hK)
    refine WC.region rfl ?_
    refine WL.want rfl (WL1.give rfl (g_move rfl (.mk (v := .slice _ _ _) rfl rfl)) ?_)
    refine WL.want rfl (WL1.give rfl (g_len rfl (.mk rfl rfl) rfl) ?_)
    refine WL.want rfl (WL1.give rfl (g_assign rfl (.mk (v := .int _ _) rfl rfl)) ?_)
    refine WL.nil ?_
    (refine hK _ _ ?_; clear hK)
    (refine WC.seq ?_; intro K hK)
    (refine WC.seq ?_; intro K hK)
    refine WC.region rfl ?_
    refine WL.want rfl (WL1.give rfl (g_move rfl (.mk (v := .int _ _) rfl rfl)) ?_)
    refine WL.want rfl (WL1.callP rfl rfl rfl (.cons (.mk (v := .int _ _) rfl rfl) .nil) (fun w hw => hpos w) ?_)
    refine WL.want rfl (WL1.give rfl (g_notF rfl (.mk rfl rfl)) ?_)
    refine WL.want rfl (WL1.give rfl (g_move rfl (.mk (v := .bool _) rfl rfl)) ?_)
    refine WL.skipG rfl rfl rfl rfl rfl rfl ?_
    refine WL.skipG rfl rfl rfl rfl rfl rfl ?_
    refine WL.skipG rfl rfl rfl rfl rfl rfl ?_
    refine WL.skipG rfl rfl rfl rfl rfl rfl ?_
    refine WL.want rfl (WL1.give rfl (g_pickT rfl (.mk rfl rfl) (.mk (v := .bool _) rfl rfl)) ?_)
    refine WL.nil ?_
    (refine hK _ _ ?_; clear hK)
    refine WC.cond_true (.mk rfl rfl) ?_
    (refine WC.seq ?_; intro K hK)
    refine WC.region rfl ?_
    refine WL.want rfl (WL1.give rfl (g_assign rfl (.mk (v := .slice _ _ _) rfl rfl)) ?_)
    refine WL.want rfl (WL1.give rfl (g_assign rfl (.mk (v := .int _ _) rfl rfl)) ?_)
    refine WL.nil ?_
    (refine hK _ _ ?_; clear hK)
    refine WC.ret ?_
    exact fun w' hw' => ⟨rfl, hw'.1⟩
end Go.Proofs.Ytdcijljfgcjelaa
namespace Go.Proofs.Ytdcijljfgcjelaa
set_option maxRecDepth 20000
open Go.RowKit
attribute [local irreducible] Calls
/-- The marks of the first i numbers. -/
def mksP (m : Nat) (l : List G) (i : Nat) : List Bool := (List.range m).map fun q => (List.range i).any fun j => decide ((nth l j).val < 240 ∧ (nth l j).val % m = q)
theorem mksP_len (m : Nat) (l : List G) (i : Nat) : (mksP m l i).length = m := by simp [mksP]
theorem mksP_nth {m : Nat} (l : List G) (i : Nat) {q : Nat} (h : q < m) : nth (mksP m l i) q = (List.range i).any fun j => decide ((nth l j).val < 240 ∧ (nth l j).val % m = q) := nth_range _ h
theorem mksP_zero (m : Nat) (l : List G) : List.replicate m false = mksP m l 0 := by
  refine list_ext_nth (by simp [mksP]) fun k hk => ?_
  have hk' : k < m := by simpa using hk
  rw [mksP_nth _ _ hk', nth_eq hk]; simp
theorem any_succ (p : Nat → Bool) (i : Nat) : (List.range (i + 1)).any p = ((List.range i).any p || p i) := by rw [List.range_succ, List.any_append]; simp
theorem mksP_set {m : Nat} {l : List G} {i : Nat} (h0 : 0 < m) (h : (nth l i).val < 240) : (mksP m l i).set ((nth l i).val % m) true = mksP m l (i + 1) :=
  list_ext_nth (by rw [List.length_set, mksP_len, mksP_len]) fun q hq => by
    have hq3 : q < m := by rw [List.length_set, mksP_len] at hq; exact hq
    rw [nth_set_eq (by rw [mksP_len]; exact Nat.mod_lt _ h0), mksP_nth _ _ hq3, mksP_nth _ _ hq3, any_succ]
    by_cases e : q = (nth l i).val % m
    · rw [if_pos e, decide_eq_true ⟨h, e.symm⟩, Bool.or_true]
    · rw [if_neg e, decide_eq_false fun q => e q.2.symm, Bool.or_false]
theorem mksP_same {m : Nat} {l : List G} {i : Nat} (h : ¬ (nth l i).val < 240) : mksP m l i = mksP m l (i + 1) := List.map_congr_left fun q _ => by
  rw [any_succ, decide_eq_false fun q => h q.1, Bool.or_false]
end Go.Proofs.Ytdcijljfgcjelaa
namespace Go.Proofs.Ytdcijljfgcjelaa
set_option maxRecDepth 20000
open Go.RowKit
attribute [local irreducible] Calls
/-- What Locate answers to three syndromes. -/
def locV (n : Nat) (s0 s1 s2 : Blk) : Int × Int :=
  if s0 = 0 ∧ s1 = 0 ∧ s2 = 0 then (0, 9)
  else if s1 = 0 ∧ s2 = 0 then (n, 0)
  else if s0 = 0 ∧ s2 = 0 then ((n + 1 : Nat), 0)
  else if s0 = 0 ∧ s1 = 0 then ((n + 2 : Nat), 0)
  else if s0 = 0 then (0, 12)
  else match fnd (fun i => decide (s1 = gpow 2 i * s0 ∧ s2 = gpow 2 (2 * i) * s0)) n with
    | some i => (i, 0)
    | none => (0, 12)
end Go.Proofs.Ytdcijljfgcjelaa
namespace Go.Proofs.Ytdcijljfgcjelaa
set_option maxRecDepth 20000
open Go.RowKit
theorem Blk.ne_at {e : Blk} (h : e ≠ 0) : ∃ t, t < 8 ∧ e.at t ≠ 0 := by
  refine Classical.byContradiction fun hn => h (Blk.ext_at fun t ht => ?_)
  rw [Blk.zero_at ht]
  exact Classical.byContradiction fun h2 => hn ⟨t, ht, h2⟩
theorem Blk.mul_cancel {c d : G} {e : Blk} (h : e ≠ 0) (hc : c * e = d * e) : c = d := by
  obtain ⟨t, ht, hn⟩ := Blk.ne_at h
  have : (c * e).at t = (d * e).at t := by rw [hc]
  rw [Blk.mul_at _ _ ht, Blk.mul_at _ _ ht, G.mul_comm c, G.mul_comm d] at this
  exact mul_left_cancel hn this
theorem Blk.mul_ne {c : G} {e : Blk} (hc : c ≠ 0) (h : e ≠ 0) : c * e ≠ 0 := fun hz => hc (Blk.mul_cancel h (by rw [hz, Blk.zero_mul]))
theorem bsum_one {n a : Nat} (ha : a < n) {f : Nat → Blk} (h : ∀ k, k < n → k ≠ a → f k = 0) : bsum n f = f a := by
  rw [bsum_take ha, bsum_zero fun k hk => ?_, Blk.add_zero]
  by_cases e : k = a
  · rw [if_pos e]
  · rw [if_neg e, h k hk e]
theorem syn_one {n a : Nat} (ha : a < n + 3) (x : Blk) (q : Nat) : syn n (fun k => if k = a then x else 0) q = col n q a * x := by
  exact (bsum_one ha (f := fun k => col n q k * (if k = a then x else 0)) (fun k _ hk => by show col n q k * (if k = a then x else 0) = 0; rw [if_neg hk, Blk.mul_zero])).trans (by show col n q a * (if a = a then x else 0) = _; rw [if_pos rfl])
theorem syn_congr {n q : Nat} {f g : Nat → Blk} (h : ∀ k, k < n + 3 → f k = g k) : syn n f q = syn n g q := bsum_congr fun k hk => by rw [h k hk]
/-- The syndromes are those of one wrong piece. -/
def Err1 (n : Nat) (s : Nat → Blk) (k : Nat) : Prop := ∃ e : Blk, e ≠ 0 ∧ ∀ q, q < 3 → s q = col n q k * e
theorem other {n a b : Nat} (h1 : 1 ≤ n) (_ha : a < n + 3) (_hb : b < n + 3) : ∃ c, c < n + 3 ∧ a ≠ c ∧ b ≠ c := by
  by_cases h0 : a ≠ 0 ∧ b ≠ 0
  · exact ⟨0, by omega, h0.1, h0.2⟩
  · by_cases h2 : a ≠ 1 ∧ b ≠ 1
    · exact ⟨1, by omega, h2.1, h2.2⟩
    · exact ⟨2, by omega, by omega, by omega⟩
theorem Err1.one {n : Nat} {s : Nat → Blk} (h1 : 1 ≤ n) (h2 : n ≤ 13) {a b : Nat} (ha : a < n + 3) (hb : b < n + 3) (p : Err1 n s a) (q : Err1 n s b) : a = b := by
  refine Classical.byContradiction fun hab => ?_
  obtain ⟨c, hc, hac, hbc⟩ := other h1 ha hb
  obtain ⟨e, he, hs⟩ := p
  obtain ⟨f, _, hs'⟩ := q
  exact he (mdsB h2 ha hb hc hab hac hbc (x := e) (y := f) (z := 0) fun r hr => by rw [← hs r hr, ← hs' r hr, Blk.mul_zero, Blk.add_zero, Blk.add_self])
theorem loc_none {n : Nat} {s0 s1 s2 : Blk} (h : s0 = 0 ∧ s1 = 0 ∧ s2 = 0) : locV n s0 s1 s2 = (0, 9) := if_pos h
theorem col_lt {n q k : Nat} (h : k < n) : col n q k = gpow 2 (q * k) := if_pos h
theorem col_at {n q : Nat} : col n q (n + q) = 1 := by unfold col; rw [if_neg (by omega), if_pos rfl]
theorem col_at0 {n : Nat} : col n 0 n = 1 := col_at (n := n) (q := 0)
theorem col_off {n q k : Nat} (h : ¬ k < n) (h2 : k ≠ n + q) : col n q k = 0 := by unfold col; rw [if_neg h, if_neg h2]
theorem loc_found {n : Nat} {s : Nat → Blk} (h2 : n ≤ 13) {k : Nat} (hk : k < n + 3) (h : Err1 n s k) : locV n (s 0) (s 1) (s 2) = ((k : Int), 0) := by
  obtain ⟨e, he, hs⟩ := h
  have q0 := hs 0 (by omega)
  have q1 := hs 1 (by omega)
  have q2 := hs 2 (by omega)
  by_cases hlt : k < n
  · rw [col_lt hlt] at q0 q1 q2
    rw [Nat.zero_mul, gpow_zero, Blk.one_mul] at q0
    have n0 : s 0 ≠ 0 := by rw [q0]; exact he
    have n1 : s 1 ≠ 0 := by rw [q1]; exact Blk.mul_ne (gpow_ne two_ne_zero _) he
    rw [locV, if_neg (fun h => n0 h.1), if_neg (fun h => n1 h.1), if_neg (fun h => n0 h.1), if_neg (fun h => n0 h.1), if_neg n0]
    rw [fnd_eq hlt (decide_eq_true ⟨by rw [q1, q0, Nat.one_mul], by rw [q2, q0]⟩) fun i hi => decide_eq_false fun hc => ?_]
    have e1 := hc.1
    rw [q1, q0, Nat.one_mul] at e1
    exact absurd (gpow_two_inj (by omega) (by omega) (Blk.mul_cancel he e1)) (by omega)
  · by_cases e0 : k = n
    · subst e0
      rw [col_at0, Blk.one_mul] at q0
      rw [col_off (by omega) (by omega), Blk.zero_mul] at q1 q2
      rw [locV, if_neg (fun h => he (by rw [← q0]; exact h.1)), if_pos ⟨q1, q2⟩]
    · by_cases e1 : k = n + 1
      · subst e1
        rw [col_at, Blk.one_mul] at q1
        rw [col_off (by omega) (by omega), Blk.zero_mul] at q0 q2
        have n1 : s 1 ≠ 0 := by rw [q1]; exact he
        rw [locV, if_neg (fun h => n1 h.2.1), if_neg (fun h => n1 h.1), if_pos ⟨q0, q2⟩]
      · have e2 : k = n + 2 := by omega
        subst e2
        rw [col_at, Blk.one_mul] at q2
        rw [col_off (by omega) (by omega), Blk.zero_mul] at q0 q1
        have n2 : s 2 ≠ 0 := by rw [q2]; exact he
        rw [locV, if_neg (fun h => n2 h.2.2), if_neg (fun h => n2 h.2), if_neg (fun h => n2 h.2), if_pos ⟨q0, q1⟩]
theorem three_q {p : Nat → Prop} (h0 : p 0) (h1 : p 1) (h2 : p 2) : ∀ q, q < 3 → p q := fun q hq => by
  rcases (by omega : q = 0 ∨ q = 1 ∨ q = 2) with rfl | rfl | rfl <;> assumption
theorem loc_lost {n : Nat} {s : Nat → Blk} (hz : ¬ (s 0 = 0 ∧ s 1 = 0 ∧ s 2 = 0)) (h : ∀ k, k < n + 3 → ¬ Err1 n s k) : locV n (s 0) (s 1) (s 2) = (0, 12) := by
  rw [locV, if_neg hz]
  by_cases a : s 1 = 0 ∧ s 2 = 0
  · exact absurd ⟨s 0, fun e => hz ⟨e, a⟩, three_q (by rw [col_at0, Blk.one_mul]) (by rw [col_off (by omega) (by omega), Blk.zero_mul]; exact a.1) (by rw [col_off (by omega) (by omega), Blk.zero_mul]; exact a.2)⟩ (h n (by omega))
  · rw [if_neg a]
    by_cases b : s 0 = 0 ∧ s 2 = 0
    · exact absurd ⟨s 1, fun e => hz ⟨b.1, e, b.2⟩, three_q (by rw [col_off (by omega) (by omega), Blk.zero_mul]; exact b.1) (by rw [col_at, Blk.one_mul]) (by rw [col_off (by omega) (by omega), Blk.zero_mul]; exact b.2)⟩ (h (n + 1) (by omega))
    · rw [if_neg b]
      by_cases c : s 0 = 0 ∧ s 1 = 0
      · exact absurd ⟨s 2, fun e => hz ⟨c.1, c.2, e⟩, three_q (by rw [col_off (by omega) (by omega), Blk.zero_mul]; exact c.1) (by rw [col_off (by omega) (by omega), Blk.zero_mul]; exact c.2) (by rw [col_at, Blk.one_mul])⟩ (h (n + 2) (by omega))
      · rw [if_neg c]
        by_cases d : s 0 = 0
        · rw [if_pos d]
        · rw [if_neg d]
          cases e : fnd (fun i => decide (s 1 = gpow 2 i * s 0 ∧ s 2 = gpow 2 (2 * i) * s 0)) n with
          | none => rfl
          | some i =>
            obtain ⟨hi, hp, _⟩ := fnd_some e
            have hp := of_decide_eq_true hp
            exact absurd ⟨s 0, d, three_q (by rw [col_lt hi, Nat.zero_mul, gpow_zero, Blk.one_mul]) (by rw [col_lt hi, Nat.one_mul]; exact hp.1) (by rw [col_lt hi]; exact hp.2)⟩ (h i (by omega))
/-- What another content of a piece does to the syndromes. -/
theorem syn_piece {n : Nat} {ps : List Blk} (hl : ps.length = n + 3) {i : Nat} (hi : i < n + 3) (x : Blk) (q : Nat) : syn n (nth (ps.set i (nth ps i + x))) q = syn n (nth ps) q + col n q i * x := by
  rw [← syn_one hi, ← syn_add]
  refine syn_congr fun k hk => ?_
  rw [nth_set_eq (by omega)]
  by_cases e : k = i
  · rw [if_pos e, if_pos e, e]
  · rw [if_neg e, if_neg e, Blk.add_zero]
/-- One bad piece. -/
def oneB (m i : Nat) : List Bool := (List.replicate m false).set i true
theorem oneB_len (m i : Nat) : (oneB m i).length = m := by simp [oneB]
theorem oneB_nth {m i k : Nat} (hi : i < m) : nth (oneB m i) k = decide (k = i) := by
  unfold oneB
  rw [nth_set_eq (by simpa using hi)]
  by_cases e : k = i
  · rw [if_pos e, decide_eq_true e]
  · rw [if_neg e, decide_eq_false e]
    by_cases h : k < m
    · rw [nth_eq (by simpa using h)]; simp
    · unfold nth; rw [List.getD_eq_getElem?_getD, List.getElem?_eq_none (by simpa using h)]; rfl
theorem oneB_cnt {m i : Nat} (hi : i < m) : ∀ k, cnt (oneB m i) k ≤ 1 ∧ (k ≤ i → cnt (oneB m i) k = 0)
  | 0 => ⟨by show 0 ≤ 1; omega, fun _ => rfl⟩
  | k + 1 => by
    obtain ⟨h1, h2⟩ := oneB_cnt hi k
    have hs : cnt (oneB m i) (k + 1) = cnt (oneB m i) k + if nth (oneB m i) k then 1 else 0 := rfl
    rw [oneB_nth hi] at hs
    by_cases e : k = i
    · rw [decide_eq_true e, if_pos rfl, h2 (by omega)] at hs
      exact ⟨by omega, fun h => by omega⟩
    · rw [decide_eq_false e] at hs
      have hs : cnt (oneB m i) (k + 1) = cnt (oneB m i) k := hs
      exact ⟨by omega, fun h => by rw [hs]; exact h2 (by omega)⟩
/-- A group without one of its pieces becomes consistent just where this piece alone is wrong. -/
theorem dec_one {n : Nat} {ps : List Blk} (hl : ps.length = n + 3) (h1 : 1 ≤ n) (h2 : n ≤ 13) {i : Nat} (hi : i < n + 3) (hz : ¬ ∀ q, q < 3 → syn n (nth ps) q = 0) : (∀ q, q < 3 → syn n (nth (decL ps (oneB (n + 3) i) n)) q = 0) ↔ Err1 n (syn n (nth ps)) i := by
  have hc : cnt (oneB (n + 3) i) (n + 3) ≤ 3 := Nat.le_trans (oneB_cnt hi _).1 (by omega)
  have hk : ∀ k, k < n + 3 → k ≠ i → nth (decL ps (oneB (n + 3) i) n) k = nth ps k := fun k hk e => by
    rw [decL_nth _ _ _ hk, oneB_nth hi, decide_eq_false e, if_neg Bool.false_ne_true]
  constructor
  · intro h
    obtain ⟨x, hx⟩ : ∃ x, x = nth ps i + nth (decL ps (oneB (n + 3) i) n) i := ⟨_, rfl⟩
    have hs : ∀ q, q < 3 → syn n (nth ps) q = col n q i * x := fun q hq => by
      have e : syn n (nth (decL ps (oneB (n + 3) i) n)) q = syn n (nth (ps.set i (nth ps i + x))) q := syn_congr fun k hk' => by
        rw [nth_set_eq (by omega)]
        by_cases e : k = i
        · rw [if_pos e, hx, e, ← Blk.add_assoc, Blk.add_self, Blk.zero_add]
        · rw [if_neg e, hk k hk' e]
      rw [syn_piece hl hi, h q hq] at e
      exact Blk.add_cancel e.symm
    refine ⟨x, fun hx0 => hz fun q hq => by rw [hs q hq, hx0, Blk.mul_zero], hs⟩
  · rintro ⟨x, hx, hs⟩
    obtain ⟨ps', hp'⟩ : ∃ ps', ps' = ps.set i (nth ps i + x) := ⟨_, rfl⟩
    have hl' : ps'.length = n + 3 := by rw [hp', List.length_set, hl]
    have hs' : ∀ q, q < 3 → syn n (nth ps') q = 0 := fun q hq => by rw [hp', syn_piece hl hi, hs q hq, Blk.add_self]
    have hg : isGroup ps' = true := (isGroup_syn hl' (by omega) (by omega)).2 hs'
    rw [← isGroup_same hl' (by omega) (by omega)] at hg
    have hg := of_decide_eq_true hg
    have htl : (ps'.take n).length = n := by rw [List.length_take]; omega
    have := decL_group (bs := oneB (n + 3) i) (ps := ps) htl h1 h2 hc fun k hk' hb => by
      rw [oneB_nth hi] at hb
      rw [← hg, hp', nth_set_eq (by omega), if_neg (of_decide_eq_false hb)]
    rw [← hg] at this
    rw [this]
    exact hs'
end Go.Proofs.Ytdcijljfgcjelaa
namespace Go.Proofs.Ytdcijljfgcjelaa
set_option maxRecDepth 20000
open Go.RowKit
end Go.Proofs.Ytdcijljfgcjelaa
namespace Go.Proofs.Ytdcijljfgcjelaa
set_option maxRecDepth 20000
open Go.RowKit
/-- The element with the number k. -/
def gOf (k : Nat) : G := ⟨k % 256, Nat.mod_lt _ (by omega)⟩
theorem gOf_val {k : Nat} (h : k < 256) : (gOf k).val = k := Nat.mod_eq_of_lt h
theorem gOf_of (a : G) : gOf a.val = a := G.eq_of (gOf_val a.lt)
/-- Whether an element has an inverse. -/
def gnz (a : G) : Bool := decide (a ≠ 0)
end Go.Proofs.Ytdcijljfgcjelaa
namespace Go.Proofs.Ytdcijljfgcjelaa
set_option maxRecDepth 20000
open Go.RowKit
attribute [local irreducible] Calls
theorem mapv_snoc (ro : List Row) (r : Row) : ro.map Row.v ++ [r.v] = (ro ++ [r]).map Row.v := by rw [List.map_append]; rfl
theorem bvs_snoc (l : List G) (g : G) : bvs l ++ [bv g] = bvs (l ++ [g]) := by unfold bvs; rw [List.map_append]; rfl
def rowG (n p : Nat) : List G := (List.range n).map (gen n p)
theorem rowG_len (n p : Nat) : (rowG n p).length = n := by simp [rowG]
theorem rowG_at {n p i : Nat} (h : i < n) : nth (rowG n p) i = gen n p i := nth_range _ h
def rowGP (n p i : Nat) : List G := (List.range n).map fun q => if q < i then gen n p q else 0
theorem rowGP_len (n p i : Nat) : (rowGP n p i).length = n := by simp [rowGP]
theorem rowGP_zero (n p : Nat) : List.replicate n (0 : G) = rowGP n p 0 := by
  refine list_ext_nth (by simp [rowGP]) fun k hk => ?_
  have hk' : k < n := by simpa using hk
  rw [rowGP, nth_range _ hk', if_neg (by omega), nth_eq hk]
  simp
theorem rowGP_all (n p : Nat) : rowGP n p n = rowG n p := List.map_congr_left fun q hq => if_pos (by simpa using hq)
theorem rowGP_set {n p i : Nat} (h : i < n) : (rowGP n p i).set i (gen n p i) = rowGP n p (i + 1) :=
  list_ext_nth (by rw [List.length_set, rowGP_len, rowGP_len]) fun q hq => by
    have hq3 : q < n := by rw [List.length_set, rowGP_len] at hq; exact hq
    rw [nth_set_eq (by rw [rowGP_len]; exact h), rowGP, rowGP, nth_range _ hq3, nth_range _ hq3]
    by_cases e : q = i
    · subst e; rw [if_pos rfl, if_pos (by omega)]
    · rw [if_neg e]
      by_cases e2 : q < i
      · rw [if_pos e2, if_pos (by omega)]
      · rw [if_neg e2, if_neg (by omega)]
theorem rowGP_same {n p i : Nat} (h : i < n) (h0 : gen n p i = 0) : rowGP n p i = rowGP n p (i + 1) := by
  rw [← rowGP_set h, h0]
  refine (set_self (by rw [rowGP_len]; exact h) ?_).symm
  rw [rowGP, nth_range _ h, if_neg (by omega)]
theorem rowGP_put {n p i q : Nat} {v : Value} (h : i < n) (hq : q = i) (hv : v = bv (gen n p i)) : (bvs (rowGP n p i)).set q v = bvs (rowGP n p (i + 1)) := by rw [hq, hv, bvs_set, rowGP_set h]
end Go.Proofs.Ytdcijljfgcjelaa
namespace Go.Proofs.Ytdcijljfgcjelaa
set_option maxRecDepth 20000
open Go.RowKit
attribute [local irreducible] Calls
theorem weights_k {v : Value} {m n to : Nat} {zm zt : Int} {fr : List Nat} {ws : List G} {w : World} (hzm : zm = (m : Int)) (hzt : zt = (to : Int)) (hm : m = n + 3) (h1 : 1 ≤ n) (h2 : n ≤ 13) (hfr : Wfr n fr) (hto : to < m) (hw : wts n fr to = ws) (hv : Sl w 1 v n (ldv fr)) :
    Calls Try.prog 11 #[iv zm, v, iv zt] w fun e w' => ∃ v' M, e = .returned v' ∧ H w M w' ∧ ∃ A c, v' = .tuple #[.slice A n c, iv 0] ∧ M = [vec A n c 5 1 (bvs ws)] := by
  subst hzm; subst hzt; subst hw
  exact weights_n v m n to fr w (by rw [hfr.len]; exact hv) hm h1 h2 hfr hto
theorem decode_k {vp vb : Value} {ps qs : List Blk} {bs : List Bool} {n m : Nat} {w : World} (hm : m = n + 3) (h1 : 1 ≤ n) (h2 : n ≤ 13) (hpl : ps.length = n + 3) (hbl : bs.length = n + 3) (hc : cnt bs (n + 3) ≤ 3) (hd : decL ps bs n = qs) (hp : Sl w 8 vp m (kvs ps)) (hb : Sl w 1 vb m (bls bs)) :
    Calls Try.prog 8 #[vp, vb] w fun e w' => ∃ v' M, e = .returned v' ∧ H w M w' ∧ ∃ A c, v' = .tuple #[.slice A m c, iv 0] ∧ M = [vec A m c 25 8 (kvs qs)] := by
  subst hm; subst hd
  refine (decode_c vp vb ps bs n w (by rw [hpl]; exact hp) (by rw [hbl]; exact hb) h1 h2 hpl hbl).mono fun e w' ⟨v', M, he, hM, h⟩ => ⟨v', M, he, hM, ?_⟩
  rcases h with ⟨h, _⟩ | ⟨_, h⟩
  · omega
  · exact h
theorem decode_l {vp vb : Value} {ps : List Blk} {bs : List Bool} {n m : Nat} {w : World} (hm : m = n + 3) (h1 : 1 ≤ n) (h2 : n ≤ 13) (hpl : ps.length = n + 3) (hbl : bs.length = n + 3) (hc : 3 < cnt bs (n + 3)) (hp : Sl w 8 vp m (kvs ps)) (hb : Sl w 1 vb m (bls bs)) :
    Calls Try.prog 8 #[vp, vb] w fun e w' => e = .returned (.tuple #[.slice none 0 0, iv 12]) ∧ Below w.heap.size w w' := by
  subst hm
  refine (decode_c vp vb ps bs n w (by rw [hpl]; exact hp) (by rw [hbl]; exact hb) h1 h2 hpl hbl).mono fun e w' ⟨v', M, he, hM, h⟩ => ?_
  rcases h with ⟨_, h⟩ | ⟨h, _⟩
  · exact ⟨by rw [he, h], hM.1⟩
  · omega
theorem ex_w1 : wts 2 [1, 2] 0 = [1, 1] := by decide +kernel
theorem ex_w2 : wts 2 [1, 3] 0 = [2, 1] := by decide +kernel
theorem ex_f1 : Wfr 2 [1, 2] := ⟨rfl, by decide, fun i hi => match i, hi with | 0, _ => by decide⟩
theorem ex_f2 : Wfr 2 [1, 3] := ⟨rfl, by decide, fun i hi => match i, hi with | 0, _ => by decide⟩
theorem ex_dec : decL [lb 1, lb 1, lb (gn 6), lb (gn 9), lb 1] [true, true, false, false, true] 2 = [lb (gn 3), lb (gn 5), lb (gn 6), lb (gn 9), lb (gn 23)] := by decide +kernel
theorem ex_loc : locV 2 (nth (synL [lb (gn 3), lb (gn 4), lb (gn 6), lb (gn 9), lb (gn 23)]) 0) (nth (synL [lb (gn 3), lb (gn 4), lb (gn 6), lb (gn 9), lb (gn 23)]) 1) (nth (synL [lb (gn 3), lb (gn 4), lb (gn 6), lb (gn 9), lb (gn 23)]) 2) = (1, 0) := by decide +kernel
end Go.Proofs.Ytdcijljfgcjelaa
namespace Go.Proofs.Ytdcijljfgcjelaa
set_option maxRecDepth 20000
open Go.RowKit
attribute [local irreducible] Calls
theorem ex_enc : enc [lb 1, lb (gn 2)] = [lb (gn 3), lb (gn 5), lb (gn 9)] := by decide +kernel
theorem ex_dec25 : decL [lb 0, lb 0, lb (gn 3), lb (gn 5), lb (gn 9)] [true, true, false, false, false] 2 = [lb 1, lb (gn 2), lb (gn 3), lb (gn 5), lb (gn 9)] := by decide +kernel
theorem ex_cmp : Cmp 5 4 := cmpB_spec (by decide +kernel)
theorem ex_lay : Lay 5 4 4 3 (cmb 5 4 [] 0) 1 0 := ⟨dsgB_spec (by decide +kernel), balB_spec (by decide +kernel), by decide, by decide, by decide, by decide, by decide, by decide +kernel, by decide +kernel, by decide⟩
theorem encode_k {v : Value} {n : Nat} {ds qs : List Blk} {w : World} (hn : ds.length = n) (h1 : 1 ≤ n) (h2 : n ≤ 13) (hq : enc ds = qs) (hv : Sl w 8 v n (kvs ds)) : Calls Try.prog 6 #[v] w fun e w' => ∃ v' M, e = .returned v' ∧ H w M w' ∧
    ∃ b, v' = .tuple #[.slice (some ⟨b, 0, none⟩) 3 3, iv 0] ∧ M = [vec (some ⟨b, 0, none⟩) 3 3 25 8 (kvs qs)] := by
  subst hn; subst hq
  exact encode_n v ds w hv h1 h2
set_option maxRecDepth 20000 in
set_option maxHeartbeats 4000000 in
theorem awake_top (w : World) : Calls Try.prog 5 #[] w fun e w' => e = .returned (.bool true) ∧ Below w.heap.size w w' := by
  have hch : ∀ w, Calls Try.prog 21 #[iv 5, iv 4] w fun e w' => ∃ u M, e = .returned u ∧ H w M w' ∧ ∃ A c rs, rs.length = 5 ∧ Lay 5 4 4 3 (ils rs) 1 0 ∧ u = .tuple #[.agg #[iv 5, .slice A rs.length c], iv 0] ∧ M = dsgA A c rs := fun w =>
    (choose_n 5 4 w ex_cmp (by decide) (by decide)).mono fun e w' ⟨u, M, he, hH, A, c, rs, hrs, hu, hM⟩ => ⟨u, M, he, hH, A, c, rs, by have := congrArg List.length hrs; rw [List.length_map] at this; rw [this]; decide +kernel, by rw [hrs]; exact ex_lay, hu, hM⟩
  refine calls_wc (args := []) [0] [] Try.func5 rfl Try.ntmps5 rfl rfl rfl rfl (H.refl _) ?_
  have E2 : EqV Try.prog 25 (kv (lb (gn 2))) (kv (lb (gn 2))) true := blk_eq rfl
  have r0 : ∀ j u, (lb (gn 3)).cells[j]? = some u → (kvs [lb (gn 3), lb (gn 5), lb (gn 9)])[0 * 8 + j]? = some u := fun j u h => flat_row (l := [lb (gn 3), lb (gn 5), lb (gn 9)]) blk8 (by decide) j u h
  have r1 : ∀ j u, (lb (gn 5)).cells[j]? = some u → (kvs [lb (gn 3), lb (gn 5), lb (gn 9)])[1 * 8 + j]? = some u := fun j u h => flat_row (l := [lb (gn 3), lb (gn 5), lb (gn 9)]) blk8 (by decide) j u h
  have r2 : ∀ j u, (lb (gn 9)).cells[j]? = some u → (kvs [lb (gn 3), lb (gn 5), lb (gn 9)])[2 * 8 + j]? = some u := fun j u h => flat_row (l := [lb (gn 3), lb (gn 5), lb (gn 9)]) blk8 (by decide) j u h
  have r3 : ∀ j u, (lb (gn 2)).cells[j]? = some u → (kvs [lb 1, lb (gn 2), lb (gn 3), lb (gn 5), lb (gn 9)])[1 * 8 + j]? = some u := fun j u h => flat_row (l := [lb 1, lb (gn 2), lb (gn 3), lb (gn 5), lb (gn 9)]) blk8 (by decide) j u h
  (refine WC.seq ?_; intro K hK)
  refine WC.region rfl ?_
  refine WL.want rfl (WL1.give rfl (g_assign rfl (.mk (v := .bool _) rfl rfl)) ?_)
  refine WL.nil ?_
  (refine hK _ _ ?_; clear hK)
  (refine WC.seq ?_; intro K hK)
  refine WC.region rfl ?_
  refine WL.want rfl (WL1.give rfl (g_buildArr (cs := [_, _, _, _, _, _, _, _]) rfl rfl rfl rfl rfl (.cons (.mk (v := .int _ _) rfl rfl) .nil) rfl rfl rfl) ?_)
  refine WL.want rfl (WL1.give rfl (g_buildArr (cs := [_, _, _, _, _, _, _, _]) rfl rfl rfl rfl rfl (.cons (.mk (v := .int _ _) rfl rfl) .nil) rfl rfl rfl) ?_)
  refine WL.want rfl (WL1.lit (cs := [_, _, _, _, _, _, _, _, _, _, _, _, _, _, _, _]) elK rfl rfl rfl (.cons (.mk (v := .agg _) rfl rfl) (.cons (.mk (v := .agg _) rfl rfl) .nil)) rfl (by first | (simp [Value.cells]; done) | fail) rfl rfl (fun b10 => ?_))
  (refine WL.want rfl (WL1.callN rfl rfl rfl (.cons (.mk (v := .slice _ _ _) rfl rfl) .nil) (fun w hw => encode_k (n := 2) (ds := [lb 1, lb (gn 2)]) rfl (by omega) (by omega) ex_enc (Sl.of_vec hw (.head _))) ?_); rintro _ _ ⟨bp, rfl, rfl⟩)
  refine WL.want rfl (WL1.give rfl (g_move rfl (.mk (v := .tuple _) rfl rfl)) ?_)
  refine WL.want rfl (WL1.give rfl (g_extract rfl (.mk rfl rfl) rfl) ?_)
  refine WL.want rfl (WL1.give rfl (g_extract rfl (.mk rfl rfl) rfl) ?_)
  refine WL.want rfl (WL1.give rfl (g_assign rfl (.mk (v := .slice _ _ _) rfl rfl)) ?_)
  refine WL.want rfl (WL1.give rfl (g_assign rfl (.mk (v := .int _ _) rfl rfl)) ?_)
  refine WL.nil ?_
  (refine hK _ _ ?_; clear hK)
  (refine WC.seq ?_; intro K hK)
  (refine WC.seq ?_; intro K hK)
  refine WC.region rfl ?_
  refine WL.want rfl (WL1.give rfl (g_move rfl (.mk (v := .int _ _) rfl rfl)) ?_)
  refine WL.want rfl (WL1.give rfl (g_ne rfl (.mk rfl rfl) (.mk rfl rfl) (decide_eq_false (by omega))) ?_)
  refine WL.want rfl (WL1.give rfl (g_move rfl (.mk (v := .bool _) rfl rfl)) ?_)
  refine WL.wantG rfl rfl rfl rfl (WL1.give rfl (g_move rfl (.mk (v := .slice _ _ _) rfl rfl)) ?_)
  refine WL.wantG rfl rfl rfl rfl (WL1.give rfl (g_len rfl (.mk rfl rfl) rfl) ?_)
  refine WL.wantG rfl rfl rfl rfl (WL1.give rfl (g_ne rfl (.mk rfl rfl) (.mk rfl rfl) (decide_eq_false (by omega))) ?_)
  refine WL.want rfl (WL1.give rfl (g_pickF rfl (.mk rfl rfl) (.mk (v := .bool _) rfl rfl)) ?_)
  refine WL.nil ?_
  (refine hK _ _ ?_; clear hK)
  refine WC.cond_false (.mk rfl rfl) ?_
  refine WC.skip ?_
  (refine hK _ _ ?_; clear hK)
  (refine WC.seq ?_; intro K hK)
  refine WC.held [vec (some ⟨bp, 0, none⟩) 3 3 25 8 (kvs [lb (gn 3), lb (gn 5), lb (gn 9)])] rfl (by kernel_rfl) ?_
  refine WH.take 0 rfl (by decide +kernel) (by decide +kernel) (by decide +kernel) rfl rfl (Imp.sub (by first | ((repeat (first | exact List.nil_sublist _ | exact List.Sublist.refl _ | apply List.Sublist.cons_cons | apply List.Sublist.cons)); done) | fail)) (g_buildArr (cs := [_, _, _, _, _, _, _, _]) rfl rfl rfl rfl rfl .nil rfl rfl rfl) ?_
  refine WH.take 1 rfl (by decide +kernel) (by decide +kernel) (by decide +kernel) rfl rfl (Imp.sub (by first | ((repeat (first | exact List.nil_sublist _ | exact List.Sublist.refl _ | apply List.Sublist.cons_cons | apply List.Sublist.cons)); done) | fail)) (g_buildArr (cs := [_, _, _, _, _, _, _, _]) rfl rfl rfl rfl rfl .nil rfl rfl rfl) ?_
  refine WH.take 2 rfl (by decide +kernel) (by decide +kernel) (by decide +kernel) rfl rfl (Imp.sub (by first | ((repeat (first | exact List.nil_sublist _ | exact List.Sublist.refl _ | apply List.Sublist.cons_cons | apply List.Sublist.cons)); done) | fail)) (g_move rfl (.mk (v := .slice _ _ _) rfl rfl)) ?_
  refine WH.take 3 rfl (by decide +kernel) (by decide +kernel) (by decide +kernel) rfl rfl (Imp.sub (by first | ((repeat (first | exact List.nil_sublist _ | exact List.Sublist.refl _ | apply List.Sublist.cons_cons | apply List.Sublist.cons)); done) | fail)) (g_indexAddr (sz := 8) rfl (.mk rfl rfl) (.mk rfl rfl) rfl rfl (show _ = ((0 : Nat) : Int) from rfl) (by omega) (fun _ _ => rfl)) ?_
  refine WH.take 4 rfl (by decide +kernel) (by decide +kernel) (by decide +kernel) rfl rfl (Imp.sub (by first | ((repeat (first | exact List.nil_sublist _ | exact List.Sublist.refl _ | apply List.Sublist.cons_cons | apply List.Sublist.cons)); done) | fail)) (g_loadA rfl (.mk rfl rfl) rfl rfl (rdr_vec (cs := (lb (gn 3)).cells) (by first | ((repeat (first | exact .head _ | apply List.Mem.tail)); done) | fail) (by omega) r0)) ?_
  refine WH.take 5 rfl (by decide +kernel) (by decide +kernel) (by decide +kernel) rfl rfl (Imp.sub (by first | ((repeat (first | exact List.nil_sublist _ | exact List.Sublist.refl _ | apply List.Sublist.cons_cons | apply List.Sublist.cons)); done) | fail)) (g_move rfl (.mk (v := .slice _ _ _) rfl rfl)) ?_
  refine WH.take 6 rfl (by decide +kernel) (by decide +kernel) (by decide +kernel) rfl rfl (Imp.sub (by first | ((repeat (first | exact List.nil_sublist _ | exact List.Sublist.refl _ | apply List.Sublist.cons_cons | apply List.Sublist.cons)); done) | fail)) (g_indexAddr (sz := 8) rfl (.mk rfl rfl) (.mk rfl rfl) rfl rfl (show _ = ((1 : Nat) : Int) from rfl) (by omega) (fun _ _ => rfl)) ?_
  refine WH.take 7 rfl (by decide +kernel) (by decide +kernel) (by decide +kernel) rfl rfl (Imp.sub (by first | ((repeat (first | exact List.nil_sublist _ | exact List.Sublist.refl _ | apply List.Sublist.cons_cons | apply List.Sublist.cons)); done) | fail)) (g_loadA rfl (.mk rfl rfl) rfl rfl (rdr_vec (cs := (lb (gn 5)).cells) (by first | ((repeat (first | exact .head _ | apply List.Mem.tail)); done) | fail) (by omega) r1)) ?_
  refine WH.take 8 rfl (by decide +kernel) (by decide +kernel) (by decide +kernel) rfl rfl (Imp.sub (by first | ((repeat (first | exact List.nil_sublist _ | exact List.Sublist.refl _ | apply List.Sublist.cons_cons | apply List.Sublist.cons)); done) | fail)) (g_move rfl (.mk (v := .slice _ _ _) rfl rfl)) ?_
  refine WH.take 9 rfl (by decide +kernel) (by decide +kernel) (by decide +kernel) rfl rfl (Imp.sub (by first | ((repeat (first | exact List.nil_sublist _ | exact List.Sublist.refl _ | apply List.Sublist.cons_cons | apply List.Sublist.cons)); done) | fail)) (g_indexAddr (sz := 8) rfl (.mk rfl rfl) (.mk rfl rfl) rfl rfl (show _ = ((2 : Nat) : Int) from rfl) (by omega) (fun _ _ => rfl)) ?_
  refine WH.take 10 rfl (by decide +kernel) (by decide +kernel) (by decide +kernel) rfl rfl (Imp.sub (by first | ((repeat (first | exact List.nil_sublist _ | exact List.Sublist.refl _ | apply List.Sublist.cons_cons | apply List.Sublist.cons)); done) | fail)) (g_loadA rfl (.mk rfl rfl) rfl rfl (rdr_vec (cs := (lb (gn 9)).cells) (by first | ((repeat (first | exact .head _ | apply List.Mem.tail)); done) | fail) (by omega) r2)) ?_
  refine WH.two 11 12 (by decide +kernel) rfl rfl rfl rfl ?_ ?_
  refine WL1.lit (cs := kvs [lb 0, lb 0, lb (gn 3), lb (gn 5), lb (gn 9)]) elK rfl rfl rfl (.cons (.mk (v := .agg _) rfl rfl) (.cons (.mk (v := .agg _) rfl rfl) (.cons (.mk (v := .agg _) rfl rfl) (.cons (.mk (v := .agg _) rfl rfl) (.cons (.mk (v := .agg _) rfl rfl) .nil))))) rfl (by intro v hv; simp only [List.mem_cons, List.not_mem_nil, or_false] at hv; rcases hv with rfl | rfl | rfl | rfl | rfl <;> rfl) rfl rfl (fun b33 => ?_)
  refine WL.nil ?_
  refine ⟨(Imp.sub (by first | ((repeat (first | exact List.nil_sublist _ | exact List.Sublist.refl _ | apply List.Sublist.cons_cons | apply List.Sublist.cons)); done) | fail)), ?_⟩
  refine WH.one 12 (by decide +kernel) rfl rfl ?_
  refine WL1.lit (cs := [_, _, _, _, _]) elBo rfl rfl rfl (.cons (.mk (v := .bool _) rfl rfl) (.cons (.mk (v := .bool _) rfl rfl) (.cons (.mk (v := .bool _) rfl rfl) (.cons (.mk (v := .bool _) rfl rfl) (.cons (.mk (v := .bool _) rfl rfl) .nil))))) rfl (by first | (simp [Value.cells]; done) | fail) rfl rfl (fun b34 => ?_)
  refine WL.nil ?_
  refine ⟨(Imp.sub (by first | ((repeat (first | exact List.nil_sublist _ | exact List.Sublist.refl _ | apply List.Sublist.cons_cons | apply List.Sublist.cons)); done) | fail)), ?_⟩
  refine WH.one 13 (by decide +kernel) rfl rfl ?_
  (refine WL1.callN rfl rfl rfl (.cons (.mk (v := .slice _ _ _) rfl rfl) (.cons (.mk (v := .slice _ _ _) rfl rfl) .nil)) (fun w hw => decode_k (m := 5) (n := 2) rfl (by omega) (by omega) rfl rfl (by decide) ex_dec25 (Sl.of_vec hw (by first | ((repeat (first | exact .head _ | apply List.Mem.tail)); done) | fail)) (Sl.of_vec hw (by first | ((repeat (first | exact .head _ | apply List.Mem.tail)); done) | fail))) ?_; rintro _ _ ⟨A3, c3, rfl, rfl⟩)
  refine WL.nil ?_
  refine ⟨(Imp.sub (by first | ((repeat (first | exact List.nil_sublist _ | exact List.Sublist.refl _ | apply List.Sublist.cons_cons | apply List.Sublist.cons)); done) | fail)), ?_⟩
  refine WH.take 14 rfl (by decide +kernel) (by decide +kernel) (by decide +kernel) rfl rfl (Imp.sub (by first | ((repeat (first | exact List.nil_sublist _ | exact List.Sublist.refl _ | apply List.Sublist.cons_cons | apply List.Sublist.cons)); done) | fail)) (g_move rfl (.mk (v := .tuple _) rfl rfl)) ?_
  refine WH.take 15 rfl (by decide +kernel) (by decide +kernel) (by decide +kernel) rfl rfl (Imp.sub (by first | ((repeat (first | exact List.nil_sublist _ | exact List.Sublist.refl _ | apply List.Sublist.cons_cons | apply List.Sublist.cons)); done) | fail)) (g_extract rfl (.mk rfl rfl) rfl) ?_
  refine WH.take 16 rfl (by decide +kernel) (by decide +kernel) (by decide +kernel) rfl rfl (Imp.sub (by first | ((repeat (first | exact List.nil_sublist _ | exact List.Sublist.refl _ | apply List.Sublist.cons_cons | apply List.Sublist.cons)); done) | fail)) (g_extract rfl (.mk rfl rfl) rfl) ?_
  refine WH.take 17 rfl (by decide +kernel) (by decide +kernel) (by decide +kernel) rfl rfl (Imp.sub (by first | ((repeat (first | exact List.nil_sublist _ | exact List.Sublist.refl _ | apply List.Sublist.cons_cons | apply List.Sublist.cons)); done) | fail)) (g_assign rfl (.mk (v := .slice _ _ _) rfl rfl)) ?_
  refine WH.take 18 rfl (by decide +kernel) (by decide +kernel) (by decide +kernel) rfl rfl (Imp.sub (by first | ((repeat (first | exact List.nil_sublist _ | exact List.Sublist.refl _ | apply List.Sublist.cons_cons | apply List.Sublist.cons)); done) | fail)) (g_assign rfl (.mk (v := .int _ _) rfl rfl)) ?_
  refine WH.done (by decide +kernel) ?_
  (refine hK _ _ ?_; clear hK)
  (refine WC.seq ?_; intro K hK)
  refine WC.region rfl ?_
  (refine WL.want rfl (WL1.callN rfl rfl rfl (.cons (.mk (v := .int _ _) rfl rfl) (.cons (.mk (v := .int _ _) rfl rfl) .nil)) (fun w hw => hch w) ?_); rintro _ _ ⟨A, c, rs, hrl, hly, rfl, rfl⟩)
  refine WL.want rfl (WL1.give rfl (g_move rfl (.mk (v := .tuple _) rfl rfl)) ?_)
  refine WL.want rfl (WL1.give rfl (g_extract rfl (.mk rfl rfl) rfl) ?_)
  refine WL.want rfl (WL1.give rfl (g_extract rfl (.mk rfl rfl) rfl) ?_)
  refine WL.want rfl (WL1.alloc rfl rfl rfl rfl (fun b5 => ?_))
  refine WL.want rfl (WL1.storeAll rfl rfl (.mk rfl rfl) (.mk rfl rfl) rfl (all1 rfl) (by first | rfl | (simp [Blk.len]; done)) (.head) ?_)
  refine WL.want rfl (WL1.give rfl (g_assign rfl (.mk (v := .int _ _) rfl rfl)) ?_)
  refine WL.nil ?_
  (refine hK _ _ ?_; clear hK)
  (refine WC.seq ?_; intro K hK)
  refine WC.region rfl ?_
  refine WL.want rfl (WL1.give rfl (g_move rfl (.mk (v := .int _ _) rfl rfl)) ?_)
  refine WL.want rfl (WL1.give rfl (g_eq rfl (.mk rfl rfl) (.mk rfl rfl) (decide_eq_true (by omega))) ?_)
  refine WL.want rfl (WL1.give rfl (g_move rfl (.mk (v := .bool _) rfl rfl)) ?_)
  refine WL.wantG rfl rfl rfl rfl (WL1.give rfl (g_move rfl (.mk (v := .int _ _) rfl rfl)) ?_)
  refine WL.wantG rfl rfl rfl rfl (WL1.give rfl (g_eq rfl (.mk rfl rfl) (.mk rfl rfl) (decide_eq_true (by omega))) ?_)
  refine WL.want rfl (WL1.give rfl (g_pickT rfl (.mk rfl rfl) (.mk (v := .bool _) rfl rfl)) ?_)
  refine WL.want rfl (WL1.give rfl (g_move rfl (.mk (v := .bool _) rfl rfl)) ?_)
  refine WL.wantG rfl rfl rfl rfl (WL1.give rfl (g_move rfl (.mk (v := .slice _ _ _) rfl rfl)) ?_)
  refine WL.wantG rfl rfl rfl rfl (WL1.give rfl (g_len rfl (.mk rfl rfl) rfl) ?_)
  refine WL.wantG rfl rfl rfl rfl (WL1.give rfl (g_eq rfl (.mk rfl rfl) (.mk rfl rfl) (decide_eq_true (by omega))) ?_)
  refine WL.want rfl (WL1.give rfl (g_pickT rfl (.mk rfl rfl) (.mk (v := .bool _) rfl rfl)) ?_)
  refine WL.want rfl (WL1.give rfl (g_move rfl (.mk (v := .bool _) rfl rfl)) ?_)
  refine WL.wantG rfl rfl rfl rfl (WL1.give rfl (g_move rfl (.mk (v := .slice _ _ _) rfl rfl)) ?_)
  refine WL.wantG rfl rfl rfl rfl (WL1.give rfl (g_indexAddr (sz := 8) rfl (.mk rfl rfl) (.mk rfl rfl) rfl rfl (show _ = ((1 : Nat) : Int) from rfl) (by omega) (fun w hw => vec_some hw (.tail _ (.tail _ (.tail _ (.head _)))) (by omega))) ?_)
  refine WL.wantG rfl rfl rfl rfl (WL1.give rfl (g_loadA rfl (.mk rfl rfl) rfl rfl (rdr_vec (cs := (lb (gn 2)).cells) (by first | ((repeat (first | exact .head _ | apply List.Mem.tail)); done) | fail) (by omega) r3)) ?_)
  refine WL.wantG rfl rfl rfl rfl (WL1.give rfl (g_buildArr (cs := [_, _, _, _, _, _, _, _]) rfl rfl rfl rfl rfl (.cons (.mk (v := .int _ _) rfl rfl) .nil) rfl rfl rfl) ?_)
  refine WL.wantG rfl rfl rfl rfl (WL1.give rfl (g_aeq (by kernel_rfl) rfl (.mk rfl rfl) (.mk rfl rfl) E2) ?_)
  refine WL.want rfl (WL1.give rfl (g_pickT rfl (.mk rfl rfl) (.mk (v := .bool _) rfl rfl)) ?_)
  refine WL.want rfl (WL1.give rfl (g_move rfl (.mk (v := .bool _) rfl rfl)) ?_)
  refine WL.wantG rfl rfl rfl rfl (WL1.give rfl (g_fieldAddr (off := 1) rfl (.mk rfl rfl) rfl (fun _ _ => rfl)) ?_)
  refine WL.wantG rfl rfl rfl rfl (WL1.give rfl (g_load rfl (.mk rfl rfl) rfl (rd_pt (.head _) rfl)) ?_)
  refine WL.wantG rfl rfl rfl rfl (WL1.give rfl (g_len rfl (.mk rfl rfl) rfl) ?_)
  refine WL.wantG rfl rfl rfl rfl (WL1.give rfl (g_eq rfl (.mk rfl rfl) (.mk rfl rfl) (decide_eq_true (by omega))) ?_)
  refine WL.want rfl (WL1.give rfl (g_pickT rfl (.mk rfl rfl) (.mk (v := .bool _) rfl rfl)) ?_)
  refine WL.want rfl (WL1.give rfl (g_move rfl (.mk (v := .bool _) rfl rfl)) ?_)
  refine WL.wantG rfl rfl rfl rfl (WL1.give rfl (g_loadA rfl (.mk rfl rfl) rfl rfl (rdr_pt (.head _) (fun j u h => by simpa using h))) ?_)
  refine WL.wantG rfl rfl rfl rfl (WL1.give rfl (g_buildS (us := [(0, [_, _]), (1, [_])]) (cs := [iv 5, .slice A rs.length c, iv 1, iv 0]) rfl rfl rfl rfl (.cons (.mk (v := .agg _) rfl rfl) (.cons (.mk (v := .int _ _) rfl rfl) .nil)) rfl (fun p hp => by simp only [List.mem_cons, List.not_mem_nil, or_false] at hp; rcases hp with rfl | rfl <;> exact ⟨_, _, rfl, rfl, Nat.le_of_ble_eq_true rfl⟩) rfl) ?_)
  refine WL.wantG rfl rfl rfl rfl (WL1.callP rfl rfl rfl (.cons (.mk (v := .agg _) rfl rfl) .nil) (fun w hw => lslots_e w hly (IMat.of_rows hw (by first | ((repeat (first | exact .head _ | apply List.Mem.tail)); done) | fail) (by first | ((repeat (first | exact .head _ | apply List.Mem.tail)); done) | fail) rfl)) ?_)
  refine WL.wantG rfl rfl rfl rfl (WL1.giveD rfl (g_eq rfl (.mk rfl rfl) (.mk rfl rfl) rfl) (fun _ => ?_) (fun _ => ?_))
  refine WL.want rfl (WL1.give rfl (g_pickT rfl (.mk rfl rfl) (.mk (v := .bool _) rfl rfl)) ?_)
  refine WL.want rfl (WL1.give rfl (g_assign rfl (.mk (v := .bool _) rfl rfl)) ?_)
  refine WL.nil ?_
  (refine hK _ _ ?_; clear hK)
  refine WC.ret ?_
  rotate_left
  refine WL.want rfl (WL1.give rfl (g_pickT rfl (.mk rfl rfl) (.mk (v := .bool _) rfl rfl)) ?_)
  refine WL.want rfl (WL1.give rfl (g_assign rfl (.mk (v := .bool _) rfl rfl)) ?_)
  refine WL.nil ?_
  (refine hK _ _ ?_; clear hK)
  refine WC.ret ?_
  rotate_left
  refine WL1.lit (cs := [_, _, _, _, _]) elBo rfl rfl rfl (.cons (.mk (v := .bool _) rfl rfl) (.cons (.mk (v := .bool _) rfl rfl) (.cons (.mk (v := .bool _) rfl rfl) (.cons (.mk (v := .bool _) rfl rfl) (.cons (.mk (v := .bool _) rfl rfl) .nil))))) rfl (by first | (simp [Value.cells]; done) | fail) rfl rfl (fun b34 => ?_)
  refine WL.nil ?_
  refine ⟨(Imp.sub (by first | ((repeat (first | exact List.nil_sublist _ | exact List.Sublist.refl _ | apply List.Sublist.cons_cons | apply List.Sublist.cons)); done) | fail)), ?_⟩
  refine WH.one 11 (by decide +kernel) rfl rfl ?_
  refine WL1.lit (cs := kvs [lb 0, lb 0, lb (gn 3), lb (gn 5), lb (gn 9)]) elK rfl rfl rfl (.cons (.mk (v := .agg _) rfl rfl) (.cons (.mk (v := .agg _) rfl rfl) (.cons (.mk (v := .agg _) rfl rfl) (.cons (.mk (v := .agg _) rfl rfl) (.cons (.mk (v := .agg _) rfl rfl) .nil))))) rfl (by intro v hv; simp only [List.mem_cons, List.not_mem_nil, or_false] at hv; rcases hv with rfl | rfl | rfl | rfl | rfl <;> rfl) rfl rfl (fun b33 => ?_)
  refine WL.nil ?_
  refine ⟨(Imp.sub (by first | ((repeat (first | exact List.nil_sublist _ | exact List.Sublist.refl _ | apply List.Sublist.cons_cons | apply List.Sublist.cons)); done) | fail)), ?_⟩
  refine WH.one 13 (by decide +kernel) rfl rfl ?_
  (refine WL1.callN rfl rfl rfl (.cons (.mk (v := .slice _ _ _) rfl rfl) (.cons (.mk (v := .slice _ _ _) rfl rfl) .nil)) (fun w hw => decode_k (m := 5) (n := 2) rfl (by omega) (by omega) rfl rfl (by decide) ex_dec25 (Sl.of_vec hw (by first | ((repeat (first | exact .head _ | apply List.Mem.tail)); done) | fail)) (Sl.of_vec hw (by first | ((repeat (first | exact .head _ | apply List.Mem.tail)); done) | fail))) ?_; rintro _ _ ⟨A3, c3, rfl, rfl⟩)
  refine WL.nil ?_
  refine ⟨(Imp.sub (by first | ((repeat (first | exact List.nil_sublist _ | exact List.Sublist.refl _ | apply List.Sublist.cons_cons | apply List.Sublist.cons)); done) | fail)), ?_⟩
  refine WH.take 14 rfl (by decide +kernel) (by decide +kernel) (by decide +kernel) rfl rfl (Imp.sub (by first | ((repeat (first | exact List.nil_sublist _ | exact List.Sublist.refl _ | apply List.Sublist.cons_cons | apply List.Sublist.cons)); done) | fail)) (g_move rfl (.mk (v := .tuple _) rfl rfl)) ?_
  refine WH.take 15 rfl (by decide +kernel) (by decide +kernel) (by decide +kernel) rfl rfl (Imp.sub (by first | ((repeat (first | exact List.nil_sublist _ | exact List.Sublist.refl _ | apply List.Sublist.cons_cons | apply List.Sublist.cons)); done) | fail)) (g_extract rfl (.mk rfl rfl) rfl) ?_
  refine WH.take 16 rfl (by decide +kernel) (by decide +kernel) (by decide +kernel) rfl rfl (Imp.sub (by first | ((repeat (first | exact List.nil_sublist _ | exact List.Sublist.refl _ | apply List.Sublist.cons_cons | apply List.Sublist.cons)); done) | fail)) (g_extract rfl (.mk rfl rfl) rfl) ?_
  refine WH.take 17 rfl (by decide +kernel) (by decide +kernel) (by decide +kernel) rfl rfl (Imp.sub (by first | ((repeat (first | exact List.nil_sublist _ | exact List.Sublist.refl _ | apply List.Sublist.cons_cons | apply List.Sublist.cons)); done) | fail)) (g_assign rfl (.mk (v := .slice _ _ _) rfl rfl)) ?_
  refine WH.take 18 rfl (by decide +kernel) (by decide +kernel) (by decide +kernel) rfl rfl (Imp.sub (by first | ((repeat (first | exact List.nil_sublist _ | exact List.Sublist.refl _ | apply List.Sublist.cons_cons | apply List.Sublist.cons)); done) | fail)) (g_assign rfl (.mk (v := .int _ _) rfl rfl)) ?_
  refine WH.done (by decide +kernel) ?_
  (refine hK _ _ ?_; clear hK)
  (refine WC.seq ?_; intro K hK)
  refine WC.region rfl ?_
  (refine WL.want rfl (WL1.callN rfl rfl rfl (.cons (.mk (v := .int _ _) rfl rfl) (.cons (.mk (v := .int _ _) rfl rfl) .nil)) (fun w hw => hch w) ?_); rintro _ _ ⟨A, c, rs, hrl, hly, rfl, rfl⟩)
  refine WL.want rfl (WL1.give rfl (g_move rfl (.mk (v := .tuple _) rfl rfl)) ?_)
  refine WL.want rfl (WL1.give rfl (g_extract rfl (.mk rfl rfl) rfl) ?_)
  refine WL.want rfl (WL1.give rfl (g_extract rfl (.mk rfl rfl) rfl) ?_)
  refine WL.want rfl (WL1.alloc rfl rfl rfl rfl (fun b5 => ?_))
  refine WL.want rfl (WL1.storeAll rfl rfl (.mk rfl rfl) (.mk rfl rfl) rfl (all1 rfl) (by first | rfl | (simp [Blk.len]; done)) (.head) ?_)
  refine WL.want rfl (WL1.give rfl (g_assign rfl (.mk (v := .int _ _) rfl rfl)) ?_)
  refine WL.nil ?_
  (refine hK _ _ ?_; clear hK)
  (refine WC.seq ?_; intro K hK)
  refine WC.region rfl ?_
  refine WL.want rfl (WL1.give rfl (g_move rfl (.mk (v := .int _ _) rfl rfl)) ?_)
  refine WL.want rfl (WL1.give rfl (g_eq rfl (.mk rfl rfl) (.mk rfl rfl) (decide_eq_true (by omega))) ?_)
  refine WL.want rfl (WL1.give rfl (g_move rfl (.mk (v := .bool _) rfl rfl)) ?_)
  refine WL.wantG rfl rfl rfl rfl (WL1.give rfl (g_move rfl (.mk (v := .int _ _) rfl rfl)) ?_)
  refine WL.wantG rfl rfl rfl rfl (WL1.give rfl (g_eq rfl (.mk rfl rfl) (.mk rfl rfl) (decide_eq_true (by omega))) ?_)
  refine WL.want rfl (WL1.give rfl (g_pickT rfl (.mk rfl rfl) (.mk (v := .bool _) rfl rfl)) ?_)
  refine WL.want rfl (WL1.give rfl (g_move rfl (.mk (v := .bool _) rfl rfl)) ?_)
  refine WL.wantG rfl rfl rfl rfl (WL1.give rfl (g_move rfl (.mk (v := .slice _ _ _) rfl rfl)) ?_)
  refine WL.wantG rfl rfl rfl rfl (WL1.give rfl (g_len rfl (.mk rfl rfl) rfl) ?_)
  refine WL.wantG rfl rfl rfl rfl (WL1.give rfl (g_eq rfl (.mk rfl rfl) (.mk rfl rfl) (decide_eq_true (by omega))) ?_)
  refine WL.want rfl (WL1.give rfl (g_pickT rfl (.mk rfl rfl) (.mk (v := .bool _) rfl rfl)) ?_)
  refine WL.want rfl (WL1.give rfl (g_move rfl (.mk (v := .bool _) rfl rfl)) ?_)
  refine WL.wantG rfl rfl rfl rfl (WL1.give rfl (g_move rfl (.mk (v := .slice _ _ _) rfl rfl)) ?_)
  refine WL.wantG rfl rfl rfl rfl (WL1.give rfl (g_indexAddr (sz := 8) rfl (.mk rfl rfl) (.mk rfl rfl) rfl rfl (show _ = ((1 : Nat) : Int) from rfl) (by omega) (fun w hw => vec_some hw (.tail _ (.tail _ (.tail _ (.head _)))) (by omega))) ?_)
  refine WL.wantG rfl rfl rfl rfl (WL1.give rfl (g_loadA rfl (.mk rfl rfl) rfl rfl (rdr_vec (cs := (lb (gn 2)).cells) (by first | ((repeat (first | exact .head _ | apply List.Mem.tail)); done) | fail) (by omega) r3)) ?_)
  refine WL.wantG rfl rfl rfl rfl (WL1.give rfl (g_buildArr (cs := [_, _, _, _, _, _, _, _]) rfl rfl rfl rfl rfl (.cons (.mk (v := .int _ _) rfl rfl) .nil) rfl rfl rfl) ?_)
  refine WL.wantG rfl rfl rfl rfl (WL1.give rfl (g_aeq (by kernel_rfl) rfl (.mk rfl rfl) (.mk rfl rfl) E2) ?_)
  refine WL.want rfl (WL1.give rfl (g_pickT rfl (.mk rfl rfl) (.mk (v := .bool _) rfl rfl)) ?_)
  refine WL.want rfl (WL1.give rfl (g_move rfl (.mk (v := .bool _) rfl rfl)) ?_)
  refine WL.wantG rfl rfl rfl rfl (WL1.give rfl (g_fieldAddr (off := 1) rfl (.mk rfl rfl) rfl (fun _ _ => rfl)) ?_)
  refine WL.wantG rfl rfl rfl rfl (WL1.give rfl (g_load rfl (.mk rfl rfl) rfl (rd_pt (.head _) rfl)) ?_)
  refine WL.wantG rfl rfl rfl rfl (WL1.give rfl (g_len rfl (.mk rfl rfl) rfl) ?_)
  refine WL.wantG rfl rfl rfl rfl (WL1.give rfl (g_eq rfl (.mk rfl rfl) (.mk rfl rfl) (decide_eq_true (by omega))) ?_)
  refine WL.want rfl (WL1.give rfl (g_pickT rfl (.mk rfl rfl) (.mk (v := .bool _) rfl rfl)) ?_)
  refine WL.want rfl (WL1.give rfl (g_move rfl (.mk (v := .bool _) rfl rfl)) ?_)
  refine WL.wantG rfl rfl rfl rfl (WL1.give rfl (g_loadA rfl (.mk rfl rfl) rfl rfl (rdr_pt (.head _) (fun j u h => by simpa using h))) ?_)
  refine WL.wantG rfl rfl rfl rfl (WL1.give rfl (g_buildS (us := [(0, [_, _]), (1, [_])]) (cs := [iv 5, .slice A rs.length c, iv 1, iv 0]) rfl rfl rfl rfl (.cons (.mk (v := .agg _) rfl rfl) (.cons (.mk (v := .int _ _) rfl rfl) .nil)) rfl (fun p hp => by simp only [List.mem_cons, List.not_mem_nil, or_false] at hp; rcases hp with rfl | rfl <;> exact ⟨_, _, rfl, rfl, Nat.le_of_ble_eq_true rfl⟩) rfl) ?_)
  refine WL.wantG rfl rfl rfl rfl (WL1.callP rfl rfl rfl (.cons (.mk (v := .agg _) rfl rfl) .nil) (fun w hw => lslots_e w hly (IMat.of_rows hw (by first | ((repeat (first | exact .head _ | apply List.Mem.tail)); done) | fail) (by first | ((repeat (first | exact .head _ | apply List.Mem.tail)); done) | fail) rfl)) ?_)
  refine WL.wantG rfl rfl rfl rfl (WL1.giveD rfl (g_eq rfl (.mk rfl rfl) (.mk rfl rfl) rfl) (fun _ => ?_) (fun _ => ?_))
  refine WL.want rfl (WL1.give rfl (g_pickT rfl (.mk rfl rfl) (.mk (v := .bool _) rfl rfl)) ?_)
  refine WL.want rfl (WL1.give rfl (g_assign rfl (.mk (v := .bool _) rfl rfl)) ?_)
  refine WL.nil ?_
  (refine hK _ _ ?_; clear hK)
  refine WC.ret ?_
  rotate_left
  refine WL.want rfl (WL1.give rfl (g_pickT rfl (.mk rfl rfl) (.mk (v := .bool _) rfl rfl)) ?_)
  refine WL.want rfl (WL1.give rfl (g_assign rfl (.mk (v := .bool _) rfl rfl)) ?_)
  refine WL.nil ?_
  (refine hK _ _ ?_; clear hK)
  refine WC.ret ?_
  rotate_left
  all_goals first | exact fun w' hw' => ⟨rfl, hw'.1⟩ | (rename_i hne; exact absurd (by rw [hrl]; rfl) hne)
end Go.Proofs.Ytdcijljfgcjelaa
namespace Go.Proofs.Ytdcijljfgcjelaa
set_option maxRecDepth 20000
open Go.RowKit
theorem cnt_set {l : List Bool} {j : Nat} (hj : j < l.length) : ∀ k, cnt (l.set j true) k ≤ cnt l k + 1 ∧ (k ≤ j → cnt (l.set j true) k = cnt l k)
  | 0 => ⟨Nat.zero_le _, fun _ => rfl⟩
  | k + 1 => by
    obtain ⟨h1, h2⟩ := cnt_set hj k
    have e1 : cnt (l.set j true) (k + 1) = cnt (l.set j true) k + if nth (l.set j true) k then 1 else 0 := rfl
    have e2 : cnt l (k + 1) = cnt l k + if nth l k then 1 else 0 := rfl
    rw [nth_set_eq hj] at e1
    by_cases e : k = j
    · rw [if_pos e, if_pos rfl, h2 (by omega)] at e1
      exact ⟨by omega, fun h => by omega⟩
    · rw [if_neg e] at e1
      exact ⟨by omega, fun h => by rw [e1, e2, h2 (by omega)]⟩
theorem cnt_none {l : List Bool} : ∀ k, (∀ q, q < k → nth l q = false) → cnt l k = 0
  | 0, _ => rfl
  | k + 1, h => by
    have e : cnt l (k + 1) = cnt l k + if nth l k then 1 else 0 := rfl
    rw [h k (by omega), cnt_none k fun q hq => h q (by omega)] at e
    exact e
theorem mksP_cnt {m : Nat} (l : List G) : ∀ i k, k ≤ m → cnt (mksP m l i) k ≤ i
  | 0, k, hk => by
    rw [cnt_none k fun q hq => by rw [mksP_nth _ _ (by omega)]; simp]; exact Nat.le_refl _
  | i + 1, k, hk => by
    have ih := mksP_cnt (m := m) l i k hk
    by_cases h240 : (nth l i).val < 240
    · by_cases hm : 0 < m
      · rw [← mksP_set hm h240]
        have := (cnt_set (l := mksP m l i) (j := (nth l i).val % m) (by rw [mksP_len]; exact Nat.mod_lt _ hm) k).1
        omega
      · have : k = 0 := by omega
        subst this; exact Nat.zero_le _
    · rw [← mksP_same h240]; omega
theorem cnt_mono {l : List Bool} (a : Nat) : ∀ d, cnt l a ≤ cnt l (a + d) ∧ cnt l (a + d) ≤ cnt l a + d
  | 0 => ⟨Nat.le_refl _, Nat.le_refl _⟩
  | d + 1 => by
    obtain ⟨h1, h2⟩ := cnt_mono (l := l) a d
    have e : cnt l (a + (d + 1)) = cnt l (a + d) + if nth l (a + d) then 1 else 0 := rfl
    split at e <;> omega
theorem cnt_tail {l : List Bool} {a : Nat} : ∀ d, (∀ q, a ≤ q → q < a + d → nth l q = true) → cnt l (a + d) = cnt l a + d
  | 0, _ => rfl
  | d + 1, h => by
    have e : cnt l (a + (d + 1)) = cnt l (a + d) + if nth l (a + d) then 1 else 0 := rfl
    rw [h (a + d) (by omega) (by omega), cnt_tail d fun q h1 h2 => h q h1 (by omega)] at e
    exact e
/-- The last k are marked too. -/
def padB (bs : List Bool) (k : Nat) : List Bool := (List.range bs.length).map fun q => nth bs q || decide (bs.length ≤ q + k)
theorem padB_len (bs : List Bool) (k : Nat) : (padB bs k).length = bs.length := by simp [padB]
theorem padB_nth {bs : List Bool} {k q : Nat} (h : q < bs.length) : nth (padB bs k) q = (nth bs q || decide (bs.length ≤ q + k)) := nth_range _ h
theorem padB_zero (bs : List Bool) : padB bs 0 = bs := list_ext_nth (padB_len _ _) fun q hq => by
  have hq' : q < bs.length := by rw [padB_len] at hq; exact hq
  rw [padB_nth hq', decide_eq_false (by omega), Bool.or_false]
theorem padB_set {bs : List Bool} {k : Nat} (h : k < bs.length) : (padB bs k).set (bs.length - 1 - k) true = padB bs (k + 1) := list_ext_nth (by rw [List.length_set, padB_len, padB_len]) fun q hq => by
  have hq' : q < bs.length := by rw [List.length_set, padB_len] at hq; exact hq
  rw [nth_set_eq (by rw [padB_len]; omega), padB_nth hq', padB_nth hq']
  by_cases e : q = bs.length - 1 - k
  · rw [if_pos e, decide_eq_true (by omega : bs.length ≤ q + (k + 1)), Bool.or_true]
  · rw [if_neg e]
    congr 1
    exact decide_eq_decide.2 (by omega)
theorem padB_cnt {bs : List Bool} {k : Nat} (h : k ≤ bs.length) : k ≤ cnt (padB bs k) bs.length := by
  have := cnt_tail (l := padB bs k) (a := bs.length - k) k fun q h1 h2 => by
    rw [padB_nth (by omega), decide_eq_true (by omega), Bool.or_true]
  rw [show bs.length - k + k = bs.length from by omega] at this
  omega
end Go.Proofs.Ytdcijljfgcjelaa
namespace Go.Proofs.Ytdcijljfgcjelaa
set_option maxRecDepth 20000
open Go.RowKit Go.WideShapes Go.ChangeShapes Go.ChangeAt

section
variable {H : Type} {enc : TypeId × Value → H} {P : Program}
theorem trodAll_below (hl : laidOutB P = true) {W W' : World} (hb : Below W.heap.size W W') :
    ∀ (ts : List TypeId), (ts.all fun t => P.readableRec t && decide (t < P.types.size)) = true → ∀ (vs : List Value) (ds : List (DataW H)) (ps : List MemPlace),
      DataW.TrodAll enc P W 0 (fun _ => true) true ts vs ds ps → (∀ x ∈ ps, x.block < W.heap.size) →
      DataW.TrodAll enc P W' 0 (fun b => decide (b < W.heap.size)) true ts vs ds ps
  | [], _, vs, ds, ps, h, _ => by
    obtain ⟨rfl, rfl, rfl⟩ := trodAll_nil h
    exact trodAll_mk0
  | t :: ts, hr, vs, ds, ps, h, hlt => by
    obtain ⟨v, vs', d, ds', p, q, rfl, rfl, rfl, h1, h2⟩ := trodAll_cons h
    simp only [List.all_cons, Bool.and_eq_true, decide_eq_true_eq] at hr
    refine trodAll_cons_mk (Below.trod hl hr.1.1 hr.1.2 h1 hb fun x hx => hlt x (by simp [hx])) (trodAll_below hl hb ts ?_ _ _ _ h2 fun x hx => hlt x (by simp [hx]))
    simpa using hr.2
theorem trodAll_len {w : World} {base : Nat} {spare : Nat → Bool} {held : Bool} : ∀ (ts : List TypeId) (vs : List Value) (ds : List (DataW H)) (ps : List MemPlace),
    DataW.TrodAll enc P w base spare held ts vs ds ps → ds.length = ts.length ∧ vs.length = ts.length
  | [], vs, ds, ps, h => by obtain ⟨rfl, rfl, rfl⟩ := trodAll_nil h; exact ⟨rfl, rfl⟩
  | t :: ts, vs, ds, ps, h => by
    obtain ⟨v, vs', d, ds', p, q, rfl, rfl, rfl, _, h2⟩ := trodAll_cons h
    have := trodAll_len ts vs' ds' q h2
    exact ⟨by simp [this.1], by simp [this.2]⟩
theorem law_post {fn : Func} {s : ChangeSpec} {W W' : World} {args : Array Value} {ds gs : List (DataW H)} {before : List MemPlace} {tb : TypeId}
    (hl : laidOutB P = true) (hr : (fn.params.toList.all fun t => P.readableRec t && decide (t < P.types.size)) = true)
    (hv : s.vars = []) (hres : fn.resultTypes = #[tb]) (hbool : P.underlying tb = some .bool)
    (hs : ∀ ds : List (DataW H), ds.length = fn.params.toList.length → s.fn H ds = { results := [.lit (.bool true)], args := ds })
    (hW : DataW.Whole enc P fn.params.toList s.vars false W args.toList ds gs before) (hb : Below W.heap.size W W') :
    s.post enc P fn false true false false W args (.bool true) W' := by
  have hW0 := hW
  obtain ⟨p, q, hA, hV, rfl, _, _⟩ := hW
  have hV' := hV
  rw [hv] at hV'
  obtain ⟨rfl, rfl⟩ := trodVars_none hV'
  have hlen := (trodAll_len _ _ _ _ hA).1
  have hsd : s.fn H (ds ++ []) = { results := [.lit (.bool true)], args := ds } := by rw [List.append_nil]; exact hs ds hlen
  refine ⟨ds, [], _, [], p, [], hW0, ?_, ?_, ?_, hb.frame _, fun h => by cases h⟩
  · rw [hsd, hres]
    exact trodAll_cons_mk (shut_bool hbool _) trodAll_mk0
  · rw [hsd]
    exact trodAll_below hl hb _ hr _ _ _ hA fun x hx => hW0.lt x (by simp [hx])
  · rw [hv]
    rw [hsd]
    exact rfl
theorem open_arr_int {w : World} {base : Nat} {spare : Nat → Bool} {held : Bool} {r : Reach} {b0 n : Nat} {t e : TypeId} {k : IntKind} {v : Value} {d : DataW H} {p : List MemPlace}
    (ht : P.underlying t = some (.array n e)) (he : P.underlying e = some (.int k)) (hce : P.cellsOf e = 1) (hct : P.cellsOf t = n)
    (hv : Value.okWide P w r b0 t v) (h : DataW.Trod enc P w base spare held t v d p) :
    ∃ zs : List Int, zs.length = n ∧ v = .agg (zs.map (Value.int k)).toArray ∧ ∀ z ∈ zs, (Lit.int k z).wf = true := by
  have hv' := hv
  simp only [Value.okWide, ht] at hv'
  obtain ⟨cs, rfl, hsz, _⟩ := hv'
  obtain ⟨fuel, hf⟩ := h
  obtain ⟨xs, m, _, _, hlen, hxl, hg⟩ := DataW.trod_array ht hf
  have hcl : cs.toList.length = n := by simpa [hct] using hsz
  have key : ∀ i, i < n → ∃ z, cs.toList[i]? = some (.int k z) ∧ (Lit.int k z).wf = true := by
    intro i hi
    have h1 := hg i hi
    rw [hce, Nat.mul_one] at h1
    have hx : xs[i]? = some (xs[i]'(by omega)) := List.getElem?_eq_getElem (by omega)
    rw [hx] at h1
    obtain ⟨z, e1, _, e3⟩ := DataW.trod_int he h1
    refine ⟨z, ?_, e3⟩
    have hd : (List.drop i cs.toList).take 1 = [.int k z] := by simpa [Value.cells] using e1
    have := congrArg (fun l : List Value => l[0]?) hd
    simpa [List.getElem?_take, List.getElem?_drop] using this
  let f : Nat → Int := fun i => match cs.toList[i]? with | some (.int _ z) => z | _ => 0
  refine ⟨(List.range n).map f, by simp, ?_, ?_⟩
  · congr 1
    apply Array.ext'
    apply List.ext_getElem?
    intro i
    by_cases hi : i < n
    · obtain ⟨z, h1, _⟩ := key i hi
      have h2 : f i = z := by simp only [f, h1]
      rw [h1]
      simp [hi, h2]
    · rw [List.getElem?_eq_none (by omega), List.getElem?_eq_none (by simp; omega)]
  · intro z hz
    obtain ⟨i, hi, rfl⟩ := List.mem_map.1 hz
    obtain ⟨z', h1, h2⟩ := key i (List.mem_range.1 hi)
    simp only [f, h1]
    exact h2
theorem flatten_get {css : List (List Value)} {sz : Nat} (hl : ∀ cs ∈ css, cs.length = sz) : ∀ (i j : Nat), j < sz → (css.flatten)[i * sz + j]? = (css[i]?).bind (·[j]?) := by
  induction css with
  | nil => intro i j _; simp
  | cons c css ih =>
    intro i j hj
    have hc : c.length = sz := hl c (by simp)
    rw [List.flatten_cons]
    cases i with
    | zero => rw [List.getElem?_append_left (by omega)]; simp
    | succ i =>
      rw [List.getElem?_append_right (by rw [Nat.succ_mul]; omega), show (i + 1) * sz + j - c.length = i * sz + j from by rw [Nat.succ_mul]; omega]
      simpa using ih (fun cs h => hl cs (by simp [h])) i j hj
theorem flatten_len {css : List (List Value)} {sz : Nat} (hl : ∀ cs ∈ css, cs.length = sz) : css.flatten.length = css.length * sz := by
  induction css with
  | nil => simp
  | cons c css ih => rw [List.flatten_cons, List.length_append, hl c (by simp), ih (fun cs h => hl cs (by simp [h])), List.length_cons, Nat.succ_mul]; omega
/-- A slice that came in, whatever its elements: each element's cells, and that they read. -/
theorem open_sl_gen {w : World} {r : Reach} {b0 sz : Nat} {t e : TypeId} {v : Value} {d : DataW H} {p : List MemPlace}
    (ht : P.underlying t = some (.slice e)) (hC : P.cellsOf e = sz) (hsz : 0 < sz)
    (hv : Value.okWide P w r b0 t v) (h : DataW.Trod enc P w 0 (fun _ => true) true t v d p) :
    ∃ css : List (List Value), (∀ cs ∈ css, cs.length = sz) ∧ Sl w sz v css.length css.flatten ∧
      ∀ cs ∈ css, ∃ fuel x, DataW.trod enc P w 0 (fun _ => true) true fuel e cs = some x := by
  obtain ⟨a0, len, cap, rfl⟩ := okWide_slice ht hv
  obtain ⟨fuel, hf⟩ := h
  rcases Deep.open_slice ht hf with ⟨hcs, _⟩ | ⟨a, len', cap', m, n, D, Pl, hcs, _, hl, hm, hmm, _, hel⟩
  · have : Value.slice a0 len cap = .slice none 0 0 := by simpa [Value.cells] using hcs
    rw [this]
    exact ⟨[], by simp, Sl.nil w sz, by simp⟩
  · have he : Value.slice a0 len cap = .slice (some a) len' cap' := by simpa [Value.cells] using hcs
    rw [he]
    have hmc : m = cap' := by simpa using hmm
    have each : ∀ i, ∃ cs : List Value, i < len' → cs.length = sz ∧ (∀ j, j < sz → w.cell? (a.add (i * sz + j)) = cs[j]?) ∧ ∃ fuel x, DataW.trod enc P w 0 (fun _ => true) true fuel e cs = some x := by
      intro i
      by_cases hi : i < len'
      · obtain ⟨cs', h1, h2⟩ := hel i (by omega)
        rw [hC] at h1
        obtain ⟨_, h4, h5⟩ := World.cells?_some h1
        exact ⟨cs', fun _ => ⟨h4, fun j hj => by rw [← h5 j hj, addAdd], n, _, h2⟩⟩
      · exact ⟨[], fun h => absurd h hi⟩
    obtain ⟨f, hfx⟩ := Classical.axiomOfChoice each
    have hlen : ∀ cs ∈ (List.range len').map f, cs.length = sz := by
      intro cs hcs
      obtain ⟨i, hi, rfl⟩ := List.mem_map.1 hcs
      exact (hfx i (List.mem_range.1 hi)).1
    refine ⟨(List.range len').map f, hlen, ?_, ?_⟩
    · have hnl : ((List.range len').map f).length = len' := by simp
      rw [hnl]
      refine ⟨by rw [flatten_len hlen, hnl], some a, cap', rfl, hl, hm, fun hn => ⟨a, rfl, ?_, ?_⟩⟩
      · obtain ⟨h1, h2, _⟩ := hfx 0 hn
        have h3 := h2 0 hsz
        have h4 : (f 0)[0]? = some ((f 0)[0]'(by omega)) := List.getElem?_eq_getElem (by omega)
        rw [h4] at h3
        have := World.block_lt_of_cell? w _ h3
        rwa [addBlock] at this
      · intro q u hu
        have hq : q < len' * sz := by
          have := (List.getElem?_eq_some_iff.1 hu).1
          rwa [flatten_len hlen, hnl] at this
        have e1 : q = q / sz * sz + q % sz := by rw [Nat.mul_comm]; exact (Nat.div_add_mod q sz).symm
        have hj : q % sz < sz := Nat.mod_lt _ hsz
        have hi : q / sz < len' := Nat.div_lt_of_lt_mul (by rwa [Nat.mul_comm] at hq)
        rw [e1] at hu ⊢
        rw [flatten_get hlen _ _ hj] at hu
        rw [(hfx _ hi).2.1 _ hj]
        simpa [hi] using hu
    · intro cs hcs
      obtain ⟨i, hi, rfl⟩ := List.mem_map.1 hcs
      exact (hfx i (List.mem_range.1 hi)).2.2
end
end Go.Proofs.Ytdcijljfgcjelaa
namespace Go.Proofs.Ytdcijljfgcjelaa
set_option maxRecDepth 20000
open Go.RowKit Go.WideShapes Go.ChangeShapes Go.ChangeAt
section
variable {H : Type} {enc : TypeId × Value → H} {W : World} {base : Nat}
set_option maxRecDepth 20000 in
theorem open_iv {b0 : Nat} {v : Value} {d : DataW H} {p : List MemPlace} (hv : Value.okWide Try.prog W .any b0 3 v) (h : DataW.Trod enc Try.prog W 0 (fun _ => true) true 3 v d p) : ∃ n : Int, v = .int .i64 n ∧ -9223372036854775808 ≤ n ∧ n ≤ 9223372036854775807 := by
  obtain ⟨n, rfl, _, _, hw⟩ := open_int Try.underlying3 hv h
  exact ⟨n, rfl, bounds_i64 hw⟩
set_option maxRecDepth 20000 in
theorem open_u8i {b0 : Nat} {v : Value} {d : DataW H} {p : List MemPlace} (hv : Value.okWide Try.prog W .any b0 5 v) (h : DataW.Trod enc Try.prog W 0 (fun _ => true) true 5 v d p) : ∃ n : Int, v = .int .u8 n ∧ 0 ≤ n ∧ n ≤ 255 := by
  obtain ⟨n, rfl, _, _, hw⟩ := open_int Try.underlying5 hv h
  exact ⟨n, rfl, bounds_u8 hw⟩
/-- A list of bytes as numbers. -/
def u8v (x : Int) : Value := .int .u8 x
set_option maxRecDepth 20000 in
theorem open_u8s {b0 : Nat} {v : Value} {d : DataW H} {p : List MemPlace} {T : TypeId} (hT : Try.prog.underlying T = some (.slice 5)) (hv : Value.okWide Try.prog W .any b0 T v) (h : DataW.Trod enc Try.prog W 0 (fun _ => true) true T v d p) :
    ∃ l : List Int, Sl W 1 v l.length (l.map u8v) ∧ ∀ x ∈ l, 0 ≤ x ∧ x ≤ 255 := by
  obtain ⟨css, hl, hs, hr⟩ := open_sl_gen (sz := 1) hT (by kernel_rfl) (by omega) hv h
  have key : ∃ l : List Int, css = l.map (fun x => [u8v x]) ∧ ∀ x ∈ l, 0 ≤ x ∧ x ≤ 255 := by
    clear hs
    induction css with
    | nil => exact ⟨[], rfl, by simp⟩
    | cons c css ih =>
      obtain ⟨l, e, hok⟩ := ih (fun cs h => hl cs (by simp [h])) (fun cs h => hr cs (by simp [h]))
      obtain ⟨f, x, hx⟩ := hr c (by simp)
      have hc1 := hl c (by simp)
      obtain ⟨z, e1, _, e3⟩ := DataW.trod_int Try.underlying5 (by simpa using hx)
      have hb := bounds_u8 e3
      refine ⟨z :: l, ?_, ?_⟩
      · rw [e, List.map_cons]
        have hc : c = [Value.int .u8 z] := by simpa [Value.cells] using e1
        rw [hc]; rfl
      · intro y hy
        rcases List.mem_cons.1 hy with rfl | hy
        · exact hb
        · exact hok y hy
  obtain ⟨l, rfl, hok⟩ := key
  refine ⟨l, ?_, hok⟩
  rw [List.length_map] at hs
  have hfl : ∀ l : List Int, (l.map fun x => [u8v x]).flatten = l.map u8v := fun l => by
    induction l with
    | nil => rfl
    | cons a l ih => rw [List.map_cons, List.flatten_cons, ih]; rfl
  rw [hfl] at hs
  exact hs
end
end Go.Proofs.Ytdcijljfgcjelaa
namespace Go.Proofs.Ytdcijljfgcjelaa
set_option maxRecDepth 20000
open Go.RowKit Go.WideShapes Go.ChangeShapes Go.ChangeAt
section
variable {H : Type} {enc : TypeId × Value → H} {W : World}
theorem flat_ones (k : IntKind) (l : List Int) : (l.map fun x => [Value.int k x]).flatten = l.map (Value.int k) := by
  induction l with
  | nil => rfl
  | cons a l ih => rw [List.map_cons, List.flatten_cons, ih]; rfl
set_option maxRecDepth 20000 in
theorem open_ints {k : IntKind} {b0 : Nat} {v : Value} {d : DataW H} {p : List MemPlace} {T e : TypeId} (hT : Try.prog.underlying T = some (.slice e)) (he : Try.prog.underlying e = some (.int k)) (hsz : Try.prog.cellsOf e = 1)
    (hv : Value.okWide Try.prog W .any b0 T v) (h : DataW.Trod enc Try.prog W 0 (fun _ => true) true T v d p) :
    ∃ l : List Int, Sl W 1 v l.length (l.map (Value.int k)) ∧ ∀ x ∈ l, (Lit.int k x).wf = true := by
  obtain ⟨css, hl, hs, hr⟩ := open_sl_gen (sz := 1) hT hsz (by omega) hv h
  have key : ∃ l : List Int, css = l.map (fun x => [Value.int k x]) ∧ ∀ x ∈ l, (Lit.int k x).wf = true := by
    clear hs
    induction css with
    | nil => exact ⟨[], rfl, by simp⟩
    | cons c css ih =>
      obtain ⟨l, e, hok⟩ := ih (fun cs h => hl cs (by simp [h])) (fun cs h => hr cs (by simp [h]))
      obtain ⟨f, x, hx⟩ := hr c (by simp)
      obtain ⟨z, e1, _, e3⟩ := DataW.trod_int he hx
      refine ⟨z :: l, by rw [e, List.map_cons, e1], ?_⟩
      intro y hy
      rcases List.mem_cons.1 hy with rfl | hy
      · exact e3
      · exact hok y hy
  obtain ⟨l, rfl, hok⟩ := key
  refine ⟨l, ?_, hok⟩
  rw [List.length_map, flat_ones] at hs
  exact hs
end
end Go.Proofs.Ytdcijljfgcjelaa
namespace Go.Proofs.Ytdcijljfgcjelaa
set_option maxRecDepth 20000
open Go.RowKit Go.WideShapes Go.ChangeShapes Go.ChangeAt
/-- The kinds of a type's cells: a number's kind, or none for a bool. -/
def fltFs (P : Program) (g : TypeId → Option (List (Option IntKind))) : Nat → List Field → Option (List (Option IntKind))
  | _, [] => some []
  | off, f :: fs => if f.offset = off then (g f.type).bind fun l => if P.cellsOf f.type = l.length then (fltFs P g (off + l.length) fs).map fun r => l ++ r else none else none
def fltT (P : Program) : Nat → TypeId → Option (List (Option IntKind))
  | 0, _ => none
  | n + 1, t => match P.underlying t with
    | some (.int k) => some [some k]
    | some .bool => some [none]
    | some (.array m e) => (fltT P n e).bind fun l => if P.cellsOf e = l.length ∧ P.cellsOf t = m * l.length then some (List.replicate m l).flatten else none
    | some (.struct fs) => (fltFs P (fltT P n) 0 fs.toList).bind fun l => if P.cellsOf t = l.length then some l else none
    | _ => none
inductive Lf : List (Option IntKind) → List Value → Prop
  | nil : Lf [] []
  | int {k : IntKind} {z : Int} {ks : List (Option IntKind)} {cs : List Value} : (Lit.int k z).wf = true → Lf ks cs → Lf (some k :: ks) (.int k z :: cs)
  | bool {b : Bool} {ks : List (Option IntKind)} {cs : List Value} : Lf ks cs → Lf (none :: ks) (.bool b :: cs)
theorem Lf.len {ks : List (Option IntKind)} {cs : List Value} (h : Lf ks cs) : cs.length = ks.length := by induction h <;> simp_all
theorem Lf.app {ks ls : List (Option IntKind)} {cs ds : List Value} (h : Lf ks cs) (h2 : Lf ls ds) : Lf (ks ++ ls) (cs ++ ds) := by
  induction h with
  | nil => exact h2
  | int hw _ ih => exact .int hw ih
  | bool _ ih => exact .bool ih
theorem Lf.split : ∀ {ks ls : List (Option IntKind)} {cs : List Value}, Lf (ks ++ ls) cs → ∃ c1 c2, cs = c1 ++ c2 ∧ Lf ks c1 ∧ Lf ls c2
  | [], _, cs, h => ⟨[], cs, rfl, .nil, h⟩
  | _ :: _, _, _, .int hw h => by obtain ⟨c1, c2, rfl, h1, h2⟩ := Lf.split h; exact ⟨_ :: c1, c2, rfl, .int hw h1, h2⟩
  | _ :: _, _, _, .bool h => by obtain ⟨c1, c2, rfl, h1, h2⟩ := Lf.split h; exact ⟨_ :: c1, c2, rfl, .bool h1, h2⟩
theorem Lf.many {l : List (Option IntKind)} : ∀ {m : Nat} {cs : List Value}, Lf (List.replicate m l).flatten cs → ∃ css : List (List Value), css.length = m ∧ cs = css.flatten ∧ ∀ c ∈ css, Lf l c
  | 0, _, .nil => ⟨[], rfl, rfl, by simp⟩
  | m + 1, cs, h => by
    rw [List.replicate_succ, List.flatten_cons] at h
    obtain ⟨c1, c2, rfl, h1, h2⟩ := h.split
    obtain ⟨css, e1, rfl, h3⟩ := Lf.many h2
    refine ⟨c1 :: css, by simp [e1], rfl, fun c hc => ?_⟩
    rcases List.mem_cons.1 hc with rfl | hc
    · exact h1
    · exact h3 c hc
section
variable {H : Type} {enc : TypeId × Value → H} {P : Program} {w : World} {base : Nat} {spare : Nat → Bool} {held : Bool}
theorem flat_items {e : TypeId} {l : List (Option IntKind)} {m : Nat} : ∀ {cs : List Value} {q : Nat}, cs.length = q + m * l.length → (∀ i, i < m → Lf l ((cs.drop (q + i * l.length)).take l.length)) → Lf (List.replicate m l).flatten (cs.drop q) := by
  induction m with
  | zero => intro cs q hl _; rw [List.drop_of_length_le (by omega)]; exact .nil
  | succ m ih =>
    intro cs q hl h
    rw [List.replicate_succ, List.flatten_cons]
    have h0 := h 0 (by omega)
    rw [Nat.zero_mul, Nat.add_zero] at h0
    have h1 := ih (cs := cs) (q := q + l.length) (by rw [hl, Nat.succ_mul]; omega) (fun i hi => by have := h (i + 1) (by omega); rwa [Nat.succ_mul, show q + (i * l.length + l.length) = q + l.length + i * l.length from by omega] at this)
    have := h0.app h1
    rwa [← List.drop_drop, List.take_append_drop] at this
theorem flat_fields {g : TypeId → Option (List (Option IntKind))} : ∀ {fs : List Field} {off : Nat} {ks : List (Option IntKind)} {cs : List Value}, fltFs P g off fs = some ks → cs.length = off + ks.length →
    (∀ f ∈ fs, ∀ l, g f.type = some l → P.cellsOf f.type = l.length → Lf l ((cs.drop f.offset).take (P.cellsOf f.type))) → Lf ks (cs.drop off)
  | [], off, ks, cs, h, hl, _ => by
    simp only [fltFs, Option.some.injEq] at h
    subst h
    rw [List.drop_of_length_le (by simpa using Nat.le_of_eq hl)]; exact .nil
  | f :: fs, off, ks, cs, h, hl, hf => by
    simp only [fltFs] at h
    by_cases ho : f.offset = off
    · rw [if_pos ho] at h
      cases hg : g f.type with
      | none => rw [hg] at h; cases h
      | some l =>
        rw [hg, Option.bind_some] at h
        by_cases hc : P.cellsOf f.type = l.length
        · rw [if_pos hc] at h
          cases hr : fltFs P g (off + l.length) fs with
          | none => rw [hr] at h; cases h
          | some r =>
            rw [hr] at h
            simp only [Option.map_some, Option.some.injEq] at h
            subst h
            have h0 := hf f (by simp) l hg hc
            have h1 := flat_fields hr (cs := cs) (by rw [hl, List.length_append]; omega) (fun f' hf' => hf f' (by simp [hf']))
            rw [hc, ho] at h0
            have := h0.app h1
            rwa [← List.drop_drop, List.take_append_drop] at this
        · rw [if_neg hc] at h; cases h
    · rw [if_neg ho] at h; cases h
theorem flat_trod : ∀ {n : Nat} {t : TypeId} {ks : List (Option IntKind)} {fuel : Nat} {cs : List Value} {x : DataW H × List MemPlace}, fltT P n t = some ks → DataW.trod enc P w base spare held fuel t cs = some x → Lf ks cs
  | 0, _, _, _, _, _, h, _ => by cases h
  | n + 1, t, ks, fuel, cs, x, h, hx => by
    simp only [fltT] at h
    split at h
    · rename_i k hu
      obtain ⟨z, e1, _, e3⟩ := DataW.trod_int hu hx
      simp only [Option.some.injEq] at h
      subst h; subst e1
      exact .int e3 .nil
    · rename_i hu
      obtain ⟨z, e1, _⟩ := DataW.trod_bool hu hx
      simp only [Option.some.injEq] at h
      subst h; subst e1
      exact .bool .nil
    · rename_i m e hu
      cases hg : fltT P n e with
      | none => rw [hg] at h; cases h
      | some l =>
        rw [hg, Option.bind_some] at h
        by_cases hc : P.cellsOf e = l.length ∧ P.cellsOf t = m * l.length
        · rw [if_pos hc] at h
          simp only [Option.some.injEq] at h
          subst h
          obtain ⟨xs, q, _, _, hl, hxl, hi⟩ := DataW.trod_array hu hx
          have := flat_items (cs := cs) (q := 0) (l := l) (m := m) (by rw [hl, hc.2, Nat.zero_add]) (fun i hil => by
            have h1 := hi i hil
            rw [List.getElem?_eq_getElem (by omega), hc.1] at h1
            rw [Nat.zero_add]
            exact flat_trod hg h1) (e := e)
          simpa using this
        · rw [if_neg hc] at h; cases h
    · rename_i fs hu
      cases hg : fltFs P (fltT P n) 0 fs.toList with
      | none => rw [hg] at h; cases h
      | some l =>
        rw [hg, Option.bind_some] at h
        by_cases hc : P.cellsOf t = l.length
        · rw [if_pos hc] at h
          simp only [Option.some.injEq] at h
          subst h
          obtain ⟨xs, q, _, _, hl, hxl, hi⟩ := DataW.trod_struct hu hx
          have := flat_fields (cs := cs) hg (by rw [hl, hc, Nat.zero_add]) (fun f hf l' hl' hc' => by
            obtain ⟨i, hil, hfi⟩ := List.getElem_of_mem hf
            have hsz : i < fs.size := by simpa using hil
            have h1 := hi i f (by rw [Array.getElem?_eq_getElem hsz]; simpa using hfi)
            rw [List.getElem?_eq_getElem (by omega)] at h1
            exact flat_trod hl' h1)
          simpa using this
        · rw [if_neg hc] at h; cases h
    · cases h
end
def aggB (P : Program) (t : TypeId) : Bool := match P.underlying t with | some (.struct _) => true | some (.array _ _) => true | _ => false
section
variable {H : Type} {enc : TypeId × Value → H} {W : World}
set_option maxRecDepth 20000 in
/-- A struct or an array that came in. -/
theorem open_agg {b0 : Nat} {t : TypeId} {ks : List (Option IntKind)} {v : Value} {d : DataW H} {p : List MemPlace} (ha : aggB Try.prog t = true) (hk : fltT Try.prog 8 t = some ks) (hv : Value.okWide Try.prog W .any b0 t v) (h : DataW.Trod enc Try.prog W 0 (fun _ => true) true t v d p) : ∃ cs : List Value, v = .agg cs.toArray ∧ Lf ks cs := by
  obtain ⟨cs, rfl⟩ : ∃ cs : Array Value, v = .agg cs := by
    unfold aggB at ha
    cases hu : Try.prog.underlying t with
    | none => rw [hu] at ha; cases ha
    | some d =>
      rw [hu] at ha
      unfold Value.okWide at hv
      rw [hu] at hv
      cases d <;> first | (cases ha; done) | (obtain ⟨cs, h, _⟩ := hv; exact ⟨cs, h⟩)
  obtain ⟨fuel, hf⟩ := h
  exact ⟨cs.toList, rfl, flat_trod hk hf⟩
set_option maxRecDepth 20000 in
/-- A slice of such that came in. -/
theorem open_sl_flat {b0 sz : Nat} {t e : TypeId} {ks : List (Option IntKind)} {v : Value} {d : DataW H} {p : List MemPlace} (ht : Try.prog.underlying t = some (.slice e)) (hC : Try.prog.cellsOf e = sz) (hsz : 0 < sz) (hk : fltT Try.prog 8 e = some ks) (hv : Value.okWide Try.prog W .any b0 t v) (h : DataW.Trod enc Try.prog W 0 (fun _ => true) true t v d p) :
    ∃ css : List (List Value), Sl W sz v css.length css.flatten ∧ ∀ c ∈ css, Lf ks c := by
  obtain ⟨css, _, hs, hr⟩ := open_sl_gen ht hC hsz hv h
  exact ⟨css, hs, fun c hc => by obtain ⟨f, x, hx⟩ := hr c hc; exact flat_trod hk hx⟩
/-- Element for element. -/
theorem each_flat {α : Type} {enc' : α → List Value} {ks : List (Option IntKind)} {ok : α → Prop} (h : ∀ c, Lf ks c → ∃ a, c = enc' a ∧ ok a) : ∀ {css : List (List Value)}, (∀ c ∈ css, Lf ks c) → ∃ l : List α, css = l.map enc' ∧ css.flatten = l.flatMap enc' ∧ ∀ a ∈ l, ok a
  | [], _ => ⟨[], rfl, rfl, by simp⟩
  | c :: css, hc => by
    obtain ⟨a, rfl, ha⟩ := h c (hc c (by simp))
    obtain ⟨l, rfl, e, hl⟩ := each_flat h (fun c h => hc c (by simp [h])) (css := css)
    refine ⟨a :: l, rfl, by rw [List.flatten_cons, e]; rfl, fun b hb => ?_⟩
    rcases List.mem_cons.1 hb with rfl | hb
    · exact ha
    · exact hl b hb
end
end Go.Proofs.Ytdcijljfgcjelaa
namespace Go.Proofs.Ytdcijljfgcjelaa
set_option maxRecDepth 20000
open Go.RowKit Go.WideShapes Go.ChangeShapes Go.ChangeAt
set_option maxRecDepth 20000 in
theorem own : ownKnob Try.prog.godebug = none := by kernel_rfl
set_option maxRecDepth 20000 in
theorem laidOut : laidOutB Try.prog = true := by kernel_rfl
abbrev blkK : List (Option IntKind) := List.replicate 8 (some .u8)
theorem bv_of {n : Int} (h : (Lit.int .u8 n).wf = true) : ∃ g : G, Value.int .u8 n = bv g := by
  have hb := bounds_u8 h
  exact ⟨⟨n.toNat, by omega⟩, by show _ = Value.int .u8 ((n.toNat : Nat) : Int); rw [Int.toNat_of_nonneg hb.1]⟩
theorem Lf.gs : ∀ {m : Nat} {cs : List Value}, Lf (List.replicate m (some .u8)) cs → ∃ l : List G, l.length = m ∧ cs = bvs l
  | 0, _, .nil => ⟨[], rfl, rfl⟩
  | m + 1, _, .int hw h => by
    obtain ⟨g, hg⟩ := bv_of hw
    obtain ⟨l, h1, rfl⟩ := Lf.gs h
    exact ⟨g :: l, by simp [h1], by rw [hg]; rfl⟩
theorem Lf.blk {cs : List Value} (h : Lf blkK cs) : ∃ b : Blk, cs = b.cells := by
  obtain ⟨l, h1, rfl⟩ := h.gs
  exact ⟨⟨l, h1⟩, rfl⟩
theorem Lf.blks {m : Nat} {cs : List Value} (h : Lf (List.replicate m blkK).flatten cs) : ∃ l : List Blk, l.length = m ∧ cs = kvs l := by
  obtain ⟨css, h1, rfl, h2⟩ := h.many
  obtain ⟨l, rfl, e, _⟩ := each_flat (ok := fun _ : Blk => True) (fun c hc => by obtain ⟨b, e⟩ := hc.blk; exact ⟨b, e, trivial⟩) h2
  exact ⟨l, by simpa using h1, e⟩
theorem Lf.iv {ks : List (Option IntKind)} {cs : List Value} (h : Lf (some .i64 :: ks) cs) : ∃ z ds, cs = Go.Proofs.Ytdcijljfgcjelaa.iv z :: ds ∧ -9223372036854775808 ≤ z ∧ z ≤ 9223372036854775807 ∧ Lf ks ds := by
  cases h with
  | int hw h => exact ⟨_, _, rfl, (bounds_i64 hw).1, (bounds_i64 hw).2, h⟩
section
variable {H : Type} {enc : TypeId × Value → H} {W : World}
set_option maxRecDepth 20000 in
theorem open_blks {b0 : Nat} {v : Value} {d : DataW H} {p : List MemPlace} (hv : Value.okWide Try.prog W .any b0 22 v) (h : DataW.Trod enc Try.prog W 0 (fun _ => true) true 22 v d p) :
    ∃ l : List Blk, Sl W 8 v l.length (kvs l) := by
  obtain ⟨css, hs, hc⟩ := open_sl_flat (sz := 8) (ks := blkK) Try.underlying22 (by kernel_rfl) (by omega) (by kernel_rfl) hv h
  obtain ⟨l, rfl, e, _⟩ := each_flat (ok := fun _ : Blk => True) (fun c hc => by obtain ⟨b, e⟩ := hc.blk; exact ⟨b, e, trivial⟩) hc
  rw [e, List.length_map] at hs
  exact ⟨l, hs⟩
set_option maxRecDepth 20000 in
theorem open_blk {b0 : Nat} {v : Value} {d : DataW H} {p : List MemPlace} (hv : Value.okWide Try.prog W .any b0 25 v) (h : DataW.Trod enc Try.prog W 0 (fun _ => true) true 25 v d p) : ∃ b : Blk, v = kv b := by
  obtain ⟨cs, rfl, hl⟩ := open_agg (ks := blkK) (by kernel_rfl) (by kernel_rfl) hv h
  obtain ⟨b, rfl⟩ := hl.blk
  exact ⟨b, rfl⟩
end
end Go.Proofs.Ytdcijljfgcjelaa
namespace Go.Proofs.Ytdcijljfgcjelaa
set_option maxRecDepth 20000
open Go.RowKit Go.WideShapes Go.ChangeShapes Go.ChangeAt
attribute [local irreducible] Calls
section
variable {H : Type} {enc : TypeId × Value → H} {W : World}
set_option maxRecDepth 20000 in
theorem open_u16 {b0 : Nat} {v : Value} {d : DataW H} {p : List MemPlace} (hv : Value.okWide Try.prog W .any b0 23 v) (h : DataW.Trod enc Try.prog W 0 (fun _ => true) true 23 v d p) : ∃ n : Nat, v = .int .u16 n ∧ n < 65536 := by
  obtain ⟨n, rfl, _, _, hw⟩ := open_int Try.underlying23 hv h
  have hb := bounds_u16 hw
  exact ⟨n.toNat, by rw [Int.toNat_of_nonneg hb.1], by omega⟩
end
set_option maxRecDepth 20000 in
set_option maxHeartbeats 1000000 in
theorem sameb_t {v1 v2 : Value} {a b : List Blk} {n m : Nat} {w : World} (h1 : Sl w 8 v1 n (kvs a)) (h2 : Sl w 8 v2 m (kvs b)) (hn : a.length = n) (hm : b.length = m) (he : a = b) : Calls Try.prog 9 #[v1, v2] w fun e w' => e = .returned (.bool true) ∧ Below w.heap.size w w' := by
  subst hn; subst hm; subst he
  obtain ⟨A, c, rfl, hc, hm, hs⟩ := h1.open_
  obtain ⟨A2, c2, rfl, hc2, hm2, hs2⟩ := h2.open_
  unfold maxLen at hm
  refine calls_wc (args := [.slice A a.length c, .slice A2 a.length c2]) [4] [] Try.func9 rfl Try.ntmps9 rfl rfl rfl rfl (H.refl _) ?_
  (refine WC.seq ?_; intro K hK)
  refine WC.region rfl ?_
  refine WL.want rfl (WL1.give rfl (g_assign rfl (.mk (v := .bool _) rfl rfl)) ?_)
  refine WL.nil ?_
  (refine hK _ _ ?_; clear hK)
  (refine WC.seq ?_; intro K hK)
  (refine WC.seq ?_; intro K hK)
  refine WC.region rfl ?_
  refine WL.want rfl (WL1.give rfl (g_move rfl (.mk (v := .slice _ _ _) rfl rfl)) ?_)
  refine WL.want rfl (WL1.give rfl (g_len rfl (.mk rfl rfl) rfl) ?_)
  refine WL.want rfl (WL1.give rfl (g_move rfl (.mk (v := .slice _ _ _) rfl rfl)) ?_)
  refine WL.want rfl (WL1.give rfl (g_len rfl (.mk rfl rfl) rfl) ?_)
  refine WL.want rfl (WL1.give rfl (g_ne rfl (.mk rfl rfl) (.mk rfl rfl) (decide_eq_false (by omega))) ?_)
  refine WL.nil ?_
  (refine hK _ _ ?_; clear hK)
  refine WC.cond_false (.mk rfl rfl) ?_
  refine WC.skip ?_
  (refine hK _ _ ?_; clear hK)
  (refine WC.seq ?_; intro K hK)
  (refine WC.seq ?_; intro K hK)
  refine WC.region rfl ?_
  refine WL.want rfl (WL1.give rfl (g_assign rfl (.mk (v := .int _ _) rfl rfl)) ?_)
  refine WL.nil ?_
  (refine hK _ _ ?_; clear hK)
  refine WC.block ?_
  refine WC.loopF (fun k : Nat => [(5, iv k), (0, .slice A a.length c), (1, .slice A2 a.length c2)]) (fun _ => []) (fun k => k ≤ a.length) (fun k => a.length - k) 0 (by repeat (first | exact trivial | refine ⟨rfl, ?_⟩)) (Imp.nil _) (by omega) ?_
  intro k U hk
  by_cases hlt : k < a.length
  · have g1 : ∀ t u, (nth a k).cells[t]? = some u → (kvs a)[k * 8 + t]? = some u := fun t u h => flat_row blk8 (by omega) t u h
    have E := blk_eq (a := nth a k) rfl
    (refine WC.seq ?_; intro K hK)
    (refine WC.seq ?_; intro K hK)
    refine WC.region rfl ?_
    refine WL.want rfl (WL1.give rfl (g_move rfl (.mk (v := .int _ _) rfl rfl)) ?_)
    refine WL.want rfl (WL1.give rfl (g_move rfl (.mk (v := .slice _ _ _) rfl rfl)) ?_)
    refine WL.want rfl (WL1.give rfl (g_len rfl (.mk rfl rfl) rfl) ?_)
    refine WL.want rfl (WL1.give rfl (g_lt rfl (.mk rfl rfl) (.mk rfl rfl) (decide_eq_true (by omega))) ?_)
    refine WL.nil ?_
    (refine hK _ _ ?_; clear hK)
    refine WC.cond_true (.mk rfl rfl) ?_
    refine WC.skip ?_
    (refine hK _ _ ?_; clear hK)
    (refine WC.seq ?_; intro K hK)
    refine WC.block ?_
    (refine WC.seq ?_; intro K hK)
    refine WC.quiet rfl (by kernel_rfl) (by decide +kernel) ?_
    refine WQ.want rfl (WQ1.give rfl (g_move rfl (.mk (v := .slice _ _ _) rfl rfl)) ?_)
    refine WQ.want rfl (WQ1.give rfl (g_move rfl (.mk (v := .int _ _) rfl rfl)) ?_)
    refine WQ.want rfl (WQ1.give rfl (g_indexAddr (sz := 8) rfl (.mk rfl rfl) (.mk rfl rfl) rfl rfl rfl (by omega) (fun _ _ => sl_some hs (by omega))) ?_)
    refine WQ.want rfl (WQ1.give rfl (g_loadA rfl (.mk rfl rfl) rfl (sz8 _) (rdr_sl hs (by omega) g1)) ?_)
    refine WQ.want rfl (WQ1.give rfl (g_move rfl (.mk (v := .slice _ _ _) rfl rfl)) ?_)
    refine WQ.want rfl (WQ1.give rfl (g_move rfl (.mk (v := .int _ _) rfl rfl)) ?_)
    refine WQ.want rfl (WQ1.give rfl (g_indexAddr (sz := 8) rfl (.mk rfl rfl) (.mk rfl rfl) rfl rfl rfl (by omega) (fun _ _ => sl_some hs2 (by omega))) ?_)
    refine WQ.want rfl (WQ1.give rfl (g_loadA rfl (.mk rfl rfl) rfl (sz8 _) (rdr_sl hs2 (by omega) g1)) ?_)
    refine WQ.want rfl (WQ1.give rfl (g_ane (by kernel_rfl) rfl (.mk rfl rfl) (.mk rfl rfl) E) ?_)
    refine WQ.nil ?_
    (refine hK _ _ ?_; clear hK)
    refine WC.cond_false (.mk rfl rfl) ?_
    refine WC.skip ?_
    (refine hK _ _ ?_; clear hK)
    refine WC.region rfl ?_
    refine WL.want rfl (WL1.give rfl (g_move rfl (.mk (v := .int _ _) rfl rfl)) ?_)
    refine WL.want rfl (WL1.give rfl (g_add rfl (.mk rfl rfl) (.mk rfl rfl) (IntWalk.i64_in _ (by omega))) ?_)
    refine WL.want rfl (WL1.give rfl (g_assign rfl (.mk (v := .int _ _) rfl rfl)) ?_)
    refine WL.nil ?_
    exact ⟨k + 1, (by repeat (first | exact trivial | refine ⟨rfl, ?_⟩)), .refl _, by omega, by omega⟩
  · obtain rfl : k = a.length := by omega
    (refine WC.seq ?_; intro K hK)
    (refine WC.seq ?_; intro K hK)
    refine WC.region rfl ?_
    refine WL.want rfl (WL1.give rfl (g_move rfl (.mk (v := .int _ _) rfl rfl)) ?_)
    refine WL.want rfl (WL1.give rfl (g_move rfl (.mk (v := .slice _ _ _) rfl rfl)) ?_)
    refine WL.want rfl (WL1.give rfl (g_len rfl (.mk rfl rfl) rfl) ?_)
    refine WL.want rfl (WL1.give rfl (g_lt rfl (.mk rfl rfl) (.mk rfl rfl) (decide_eq_false (by omega))) ?_)
    refine WL.nil ?_
    (refine hK _ _ ?_; clear hK)
    refine WC.cond_false (.mk rfl rfl) ?_
    refine WC.exit ?_
    (clear hK; refine hK _ _ ?_; clear hK)
    (refine WC.seq ?_; intro K hK)
    refine WC.region rfl ?_
    refine WL.want rfl (WL1.give rfl (g_assign rfl (.mk (v := .bool _) rfl rfl)) ?_)
    refine WL.nil ?_
    (refine hK _ _ ?_; clear hK)
    refine WC.ret ?_
    exact fun w' hw' => ⟨rfl, hw'.1⟩
/-! ### The first three marks -/
def bitB (s q : Nat) : Bool := decide (s / 2 ^ q % 2 = 1)
def cnM (s : Nat) : Nat → Nat
  | 0 => 0
  | q + 1 => if bitB s q = true ∧ cnM s q < 3 then cnM s q + 1 else cnM s q
def mkB (s q : Nat) : Bool := decide (bitB s q = true ∧ cnM s q < 3)
def mkP (m s i : Nat) : List Bool := (List.range m).map fun q => decide (q < i) && mkB s q
def mkL (m s : Nat) : List Bool := (List.range m).map (mkB s)
theorem mkP_len (m s i : Nat) : (mkP m s i).length = m := by simp [mkP]
theorem mkL_len (m s : Nat) : (mkL m s).length = m := by simp [mkL]
theorem mkP_nth {m s i q : Nat} (h : q < m) : nth (mkP m s i) q = (decide (q < i) && mkB s q) := nth_range _ h
theorem mkL_nth {m s q : Nat} (h : q < m) : nth (mkL m s) q = mkB s q := nth_range _ h
theorem mkP_all (m s : Nat) : mkP m s m = mkL m s := List.map_congr_left fun q hq => by rw [decide_eq_true (List.mem_range.1 hq), Bool.true_and]
theorem mkP_set {m s i : Nat} (h : i < m) (hb : mkB s i = true) : (mkP m s i).set i true = mkP m s (i + 1) :=
  list_ext_nth (by rw [List.length_set, mkP_len, mkP_len]) fun q hq => by
    have hq3 : q < m := by rw [List.length_set, mkP_len] at hq; exact hq
    rw [nth_set_eq (by rw [mkP_len]; exact h), mkP_nth hq3, mkP_nth hq3]
    by_cases e : q = i
    · subst e; rw [if_pos rfl, hb, decide_eq_true (by omega)]; rfl
    · rw [if_neg e]
      by_cases e2 : q < i
      · rw [decide_eq_true e2, decide_eq_true (by omega)]
      · rw [decide_eq_false e2, decide_eq_false (by omega)]
theorem mkP_skip {m s i : Nat} (hb : mkB s i = false) : mkP m s i = mkP m s (i + 1) := List.map_congr_left fun q _ => by
  by_cases e : q = i
  · subst e; rw [hb, Bool.and_false, Bool.and_false]
  · by_cases e2 : q < i
    · rw [decide_eq_true e2, decide_eq_true (by omega)]
    · rw [decide_eq_false e2, decide_eq_false (by omega)]
theorem cnM_le (s : Nat) : ∀ i, cnM s i ≤ 3
  | 0 => by simp [cnM]
  | i + 1 => by
    have := cnM_le s i
    rw [cnM]
    split <;> omega
theorem mkL_cnt {m s : Nat} : ∀ i, i ≤ m → cnt (mkL m s) i = cnM s i
  | 0, _ => rfl
  | i + 1, h => by
    have ih := mkL_cnt (m := m) (s := s) i (by omega)
    have e : cnt (mkL m s) (i + 1) = cnt (mkL m s) i + if nth (mkL m s) i then 1 else 0 := rfl
    rw [e, ih, mkL_nth (by omega), cnM]
    unfold mkB
    by_cases hc : bitB s i = true ∧ cnM s i < 3
    · rw [if_pos hc, decide_eq_true hc]; rfl
    · rw [if_neg hc, decide_eq_false hc]; rfl
theorem made_bo (n : Nat) : (madeCells (Value.bool false).cells (n * 1)).toList = bls (List.replicate n false) := by
  rw [show (Value.bool false).cells = #[.bool false] from rfl, made_one, bls, List.map_replicate]
theorem mkP_zero (m s : Nat) : mkP m s 0 = List.replicate m false := by
  unfold mkP
  rw [show (fun q => decide (q < 0) && mkB s q) = fun _ => false from funext fun q => by simp, List.map_const', List.length_range]
theorem shr_nat (s i : Nat) : Int.fdiv (s : Int) (2 ^ i) = ((s / 2 ^ i : Nat) : Int) := by
  rw [show (2 : Int) ^ i = ((2 ^ i : Nat) : Int) from (Int.natCast_pow 2 i).symm]
  exact (Int.ofNat_fdiv s (2 ^ i)).symm
theorem and_nat (x : Nat) (hx : x < 65536) : (BitVec.ofInt 16 (x : Int) &&& BitVec.ofInt 16 1).toNat = x % 2 := by
  rw [BitVec.toNat_and, BitVec.toNat_ofInt, BitVec.toNat_ofInt, show ((x : Int) % ((2 ^ 16 : Nat) : Int)).toNat = x from by omega, show ((1 : Int) % ((2 ^ 16 : Nat) : Int)).toNat = 1 from by decide, Nat.and_one_is_mod]
set_option maxRecDepth 20000 in
set_option maxHeartbeats 1000000 in
theorem tmarks_n (m s : Nat) (w : World) (hm : m ≤ 16) (hs : s < 65536) : Calls Try.prog 7 #[iv m, .int .u16 s] w fun e w' => ∃ v M, e = .returned v ∧ H w M w' ∧ ∃ b, v = .slice (some ⟨b, 0, none⟩) m m ∧ M = [vec (some ⟨b, 0, none⟩) m m 4 1 (bls (mkL m s))] := by
  refine calls_wc (args := [iv m, .int .u16 s]) [4] [] Try.func7 rfl Try.ntmps7 rfl rfl rfl rfl (H.refl _) ?_
  (refine WC.seq ?_; intro K hK)
  refine WC.region rfl ?_
  refine WL.want rfl (WL1.give rfl (g_assign rfl (.mk (v := .slice _ _ _) rfl rfl)) ?_)
  refine WL.nil ?_
  (refine hK _ _ ?_; clear hK)
  (refine WC.seq ?_; intro K hK)
  refine WC.region rfl ?_
  refine WL.want rfl (WL1.give rfl (g_move rfl (.mk (v := .int _ _) rfl rfl)) ?_)
  refine WL.want rfl (WL1.make elBo rfl rfl (.mk rfl rfl) (.mk rfl rfl) rfl rfl (by omega) (by unfold maxLen; omega) (fun b9 => ?_))
  refine WL.want rfl (WL1.give rfl (g_assign rfl (.mk (v := .slice _ _ _) rfl rfl)) ?_)
  refine WL.nil ?_
  (refine hK _ _ ?_; clear hK)
  (refine WC.seq ?_; intro K hK)
  refine WC.region rfl ?_
  refine WL.want rfl (WL1.give rfl (g_assign rfl (.mk (v := .int _ _) rfl rfl)) ?_)
  refine WL.nil ?_
  (refine hK _ _ ?_; clear hK)
  (refine WC.seq ?_; intro K hK)
  (refine WC.seq ?_; intro K hK)
  refine WC.region rfl ?_
  refine WL.want rfl (WL1.give rfl (g_move rfl (.mk (v := .slice _ _ _) rfl rfl)) ?_)
  refine WL.want rfl (WL1.give rfl (g_len rfl (.mk rfl rfl) rfl) ?_)
  refine WL.want rfl (WL1.give rfl (g_move rfl (.mk (v := .int _ _) rfl rfl)) ?_)
  refine WL.nil ?_
  (refine hK _ _ ?_; clear hK)
  refine WC.block ?_
  rw [made_bo, ← mkP_zero m s]
  refine WC.loop (1073737920) (fun i : Nat => [(12, iv i), (6, iv (cnM s i))]) (fun i => [vec (some ⟨b9, 0, none⟩) m m 4 1 (bls (mkP m s i))]) (fun i => i ≤ m) (fun i => m - i) 0 ⟨rfl, rfl, trivial⟩ (.refl _) (by omega) ?_
  intro i U hi
  have hpl := mkP_len m s i
  have hbl := bls_len (mkP m s i)
  by_cases hlt : i < m
  · have hpw : s / 2 ^ i ≤ s := Nat.div_le_self _ _
    have hshr : ((s : Nat) : Int).fdiv (2 ^ (min ((i : Int)).toNat (IntKind.u16).bits)) = ((s / 2 ^ i : Nat) : Int) := by
      rw [show min ((i : Int)).toNat (IntKind.u16).bits = i from by show min ((i : Int)).toNat 16 = i; omega]
      exact shr_nat s i
    have hand : IntKind.u16.wrap (BitVec.ofInt (IntKind.u16).bits ((s / 2 ^ i : Nat) : Int) &&& BitVec.ofInt (IntKind.u16).bits 1).toNat = ((s / 2 ^ i % 2 : Nat) : Int) := by
      show IntKind.u16.wrap ((BitVec.ofInt 16 ((s / 2 ^ i : Nat) : Int) &&& BitVec.ofInt 16 1).toNat : Int) = _
      rw [and_nat _ (by omega)]
      exact IntWalk.u16_in _ (by omega)
    have hmb : mkB s i = decide (bitB s i = true ∧ cnM s i < 3) := rfl
    have hcs : cnM s (i + 1) = if bitB s i = true ∧ cnM s i < 3 then cnM s i + 1 else cnM s i := rfl
    have hc3 := cnM_le s i
    by_cases hb : s / 2 ^ i % 2 = 1
    · have hbb : bitB s i = true := decide_eq_true hb
      by_cases hc : cnM s i < 3
      · rw [if_pos ⟨hbb, hc⟩] at hcs
        rw [decide_eq_true ⟨hbb, hc⟩] at hmb
        generalize s / 2 ^ i = z at *
        (refine WC.seq ?_; intro K hK)
        refine WC.region rfl ?_
        refine WL.want rfl (WL1.give rfl (g_lt rfl (.mk rfl rfl) (.mk rfl rfl) (decide_eq_true (by omega))) ?_)
        refine WL.nil ?_
        (refine hK _ _ ?_; clear hK)
        (refine WC.seq ?_; intro K hK)
        refine WC.cond_true (.mk rfl rfl) ?_
        refine WC.skip ?_
        (refine hK _ _ ?_; clear hK)
        (refine WC.seq ?_; intro K hK)
        refine WC.block ?_
        (refine WC.seq ?_; intro K hK)
        refine WC.region rfl ?_
        refine WL.want rfl (WL1.give rfl (g_move rfl (.mk (v := .int _ _) rfl rfl)) ?_)
        refine WL.want rfl (WL1.give rfl (g_assign rfl (.mk (v := .int _ _) rfl rfl)) ?_)
        refine WL.nil ?_
        (refine hK _ _ ?_; clear hK)
        (refine WC.seq ?_; intro K hK)
        refine WC.region rfl ?_
        refine WL.want rfl (WL1.give rfl (g_move rfl (.mk (v := .int _ _) rfl rfl)) ?_)
        refine WL.want rfl (WL1.give rfl (g_move rfl (.mk (v := .int _ _) rfl rfl)) ?_)
        refine WL.want rfl (WL1.give rfl (g_shr rfl (.mk rfl rfl) (.mk rfl rfl) (by omega) hshr) ?_)
        refine WL.want rfl (WL1.give rfl (g_and rfl (.mk rfl rfl) (.mk rfl rfl) hand) ?_)
        refine WL.want rfl (WL1.give rfl (g_eq rfl (.mk rfl rfl) (.mk rfl rfl) (decide_eq_true (by omega))) ?_)
        refine WL.want rfl (WL1.give rfl (g_move rfl (.mk (v := .bool _) rfl rfl)) ?_)
        refine WL.wantG rfl rfl rfl rfl (WL1.give rfl (g_move rfl (.mk (v := .int _ _) rfl rfl)) ?_)
        refine WL.wantG rfl rfl rfl rfl (WL1.give rfl (g_lt rfl (.mk rfl rfl) (.mk rfl rfl) (decide_eq_true (by omega))) ?_)
        refine WL.want rfl (WL1.give rfl (g_pickT rfl (.mk rfl rfl) (.mk (v := .bool _) rfl rfl)) ?_)
        refine WL.nil ?_
        (refine hK _ _ ?_; clear hK)
        refine WC.cond_true (.mk rfl rfl) ?_
        (refine WC.seq ?_; intro K hK)
        refine WC.region rfl ?_
        refine WL.want rfl (WL1.give rfl (g_move rfl (.mk (v := .slice _ _ _) rfl rfl)) ?_)
        refine WL.want rfl (WL1.give rfl (g_move rfl (.mk (v := .int _ _) rfl rfl)) ?_)
        refine WL.want rfl (WL1.give rfl (g_indexAddr (sz := 1) rfl (.mk rfl rfl) (.mk rfl rfl) rfl rfl rfl (by omega) (fun _ _ => rfl)) ?_)
        refine WL.want rfl (WL1.storeV1 rfl rfl (.mk rfl rfl) (.mk (v := .bool _) rfl rfl) rfl rfl (by first | omega | (simp; done) | (simp; omega)) (.head) ?_)
        refine WL.nil ?_
        (refine hK _ _ ?_; clear hK)
        refine WC.region rfl ?_
        refine WL.want rfl (WL1.give rfl (g_move rfl (.mk (v := .int _ _) rfl rfl)) ?_)
        refine WL.want rfl (WL1.give rfl (g_add rfl (.mk rfl rfl) (.mk rfl rfl) (IntWalk.i64_in _ (by omega))) ?_)
        refine WL.want rfl (WL1.give rfl (g_assign rfl (.mk (v := .int _ _) rfl rfl)) ?_)
        refine WL.nil ?_
        (refine hK _ _ ?_; clear hK)
        refine WC.region rfl ?_
        refine WL.want rfl (WL1.give rfl (g_add rfl (.mk rfl rfl) (.mk rfl rfl) (IntWalk.i64_in _ (by omega))) ?_)
        refine WL.want rfl (WL1.give rfl (g_move rfl (.mk (v := .int _ _) rfl rfl)) ?_)
        refine WL.nil ?_
        refine ⟨i + 1, (by repeat (first | with_reducible exact Out.refl _ _ | refine Out.set rfl ?_ | refine Out.put rfl ?_ | refine Out.sets rfl ?_ | refine Out.hav rfl ?_ | exact Out.refl _ _)), ⟨rfl, by rw [hcs]; rfl, trivial⟩, ?_, by omega, by omega⟩
        rw [Nat.mul_one, bls_set, mkP_set hlt hmb]
        exact .refl _
      · rw [if_neg (fun h => hc h.2)] at hcs
        rw [decide_eq_false (fun h => hc h.2)] at hmb
        generalize s / 2 ^ i = z at *
        (refine WC.seq ?_; intro K hK)
        refine WC.region rfl ?_
        refine WL.want rfl (WL1.give rfl (g_lt rfl (.mk rfl rfl) (.mk rfl rfl) (decide_eq_true (by omega))) ?_)
        refine WL.nil ?_
        (refine hK _ _ ?_; clear hK)
        (refine WC.seq ?_; intro K hK)
        refine WC.cond_true (.mk rfl rfl) ?_
        refine WC.skip ?_
        (refine hK _ _ ?_; clear hK)
        (refine WC.seq ?_; intro K hK)
        refine WC.block ?_
        (refine WC.seq ?_; intro K hK)
        refine WC.region rfl ?_
        refine WL.want rfl (WL1.give rfl (g_move rfl (.mk (v := .int _ _) rfl rfl)) ?_)
        refine WL.want rfl (WL1.give rfl (g_assign rfl (.mk (v := .int _ _) rfl rfl)) ?_)
        refine WL.nil ?_
        (refine hK _ _ ?_; clear hK)
        (refine WC.seq ?_; intro K hK)
        refine WC.region rfl ?_
        refine WL.want rfl (WL1.give rfl (g_move rfl (.mk (v := .int _ _) rfl rfl)) ?_)
        refine WL.want rfl (WL1.give rfl (g_move rfl (.mk (v := .int _ _) rfl rfl)) ?_)
        refine WL.want rfl (WL1.give rfl (g_shr rfl (.mk rfl rfl) (.mk rfl rfl) (by omega) hshr) ?_)
        refine WL.want rfl (WL1.give rfl (g_and rfl (.mk rfl rfl) (.mk rfl rfl) hand) ?_)
        refine WL.want rfl (WL1.give rfl (g_eq rfl (.mk rfl rfl) (.mk rfl rfl) (decide_eq_true (by omega))) ?_)
        refine WL.want rfl (WL1.give rfl (g_move rfl (.mk (v := .bool _) rfl rfl)) ?_)
        refine WL.wantG rfl rfl rfl rfl (WL1.give rfl (g_move rfl (.mk (v := .int _ _) rfl rfl)) ?_)
        refine WL.wantG rfl rfl rfl rfl (WL1.give rfl (g_lt rfl (.mk rfl rfl) (.mk rfl rfl) (decide_eq_false (by omega))) ?_)
        refine WL.want rfl (WL1.give rfl (g_pickT rfl (.mk rfl rfl) (.mk (v := .bool _) rfl rfl)) ?_)
        refine WL.nil ?_
        (refine hK _ _ ?_; clear hK)
        refine WC.cond_false (.mk rfl rfl) ?_
        refine WC.skip ?_
        (refine hK _ _ ?_; clear hK)
        refine WC.region rfl ?_
        refine WL.want rfl (WL1.give rfl (g_add rfl (.mk rfl rfl) (.mk rfl rfl) (IntWalk.i64_in _ (by omega))) ?_)
        refine WL.want rfl (WL1.give rfl (g_move rfl (.mk (v := .int _ _) rfl rfl)) ?_)
        refine WL.nil ?_
        refine ⟨i + 1, (by repeat (first | with_reducible exact Out.refl _ _ | refine Out.set rfl ?_ | refine Out.put rfl ?_ | refine Out.sets rfl ?_ | refine Out.hav rfl ?_ | exact Out.refl _ _)), ⟨rfl, by rw [hcs]; rfl, trivial⟩, ?_, by omega, by omega⟩
        rw [← mkP_skip hmb]
        exact .refl _
    · have hbb : ¬ bitB s i = true := fun h => hb (of_decide_eq_true h)
      rw [if_neg (fun h => hbb h.1)] at hcs
      rw [decide_eq_false (fun h => hbb h.1)] at hmb
      generalize s / 2 ^ i = z at *
      (refine WC.seq ?_; intro K hK)
      refine WC.region rfl ?_
      refine WL.want rfl (WL1.give rfl (g_lt rfl (.mk rfl rfl) (.mk rfl rfl) (decide_eq_true (by omega))) ?_)
      refine WL.nil ?_
      (refine hK _ _ ?_; clear hK)
      (refine WC.seq ?_; intro K hK)
      refine WC.cond_true (.mk rfl rfl) ?_
      refine WC.skip ?_
      (refine hK _ _ ?_; clear hK)
      (refine WC.seq ?_; intro K hK)
      refine WC.block ?_
      (refine WC.seq ?_; intro K hK)
      refine WC.region rfl ?_
      refine WL.want rfl (WL1.give rfl (g_move rfl (.mk (v := .int _ _) rfl rfl)) ?_)
      refine WL.want rfl (WL1.give rfl (g_assign rfl (.mk (v := .int _ _) rfl rfl)) ?_)
      refine WL.nil ?_
      (refine hK _ _ ?_; clear hK)
      (refine WC.seq ?_; intro K hK)
      refine WC.region rfl ?_
      refine WL.want rfl (WL1.give rfl (g_move rfl (.mk (v := .int _ _) rfl rfl)) ?_)
      refine WL.want rfl (WL1.give rfl (g_move rfl (.mk (v := .int _ _) rfl rfl)) ?_)
      refine WL.want rfl (WL1.give rfl (g_shr rfl (.mk rfl rfl) (.mk rfl rfl) (by omega) hshr) ?_)
      refine WL.want rfl (WL1.give rfl (g_and rfl (.mk rfl rfl) (.mk rfl rfl) hand) ?_)
      refine WL.want rfl (WL1.give rfl (g_eq rfl (.mk rfl rfl) (.mk rfl rfl) (decide_eq_false (by omega))) ?_)
      refine WL.want rfl (WL1.give rfl (g_move rfl (.mk (v := .bool _) rfl rfl)) ?_)
      refine WL.skipG rfl rfl rfl rfl rfl rfl ?_
      refine WL.skipG rfl rfl rfl rfl rfl rfl ?_
      refine WL.want rfl (WL1.give rfl (g_pickF rfl (.mk rfl rfl) (.mk (v := .bool _) rfl rfl)) ?_)
      refine WL.nil ?_
      (refine hK _ _ ?_; clear hK)
      refine WC.cond_false (.mk rfl rfl) ?_
      refine WC.skip ?_
      (refine hK _ _ ?_; clear hK)
      refine WC.region rfl ?_
      refine WL.want rfl (WL1.give rfl (g_add rfl (.mk rfl rfl) (.mk rfl rfl) (IntWalk.i64_in _ (by omega))) ?_)
      refine WL.want rfl (WL1.give rfl (g_move rfl (.mk (v := .int _ _) rfl rfl)) ?_)
      refine WL.nil ?_
      refine ⟨i + 1, (by repeat (first | with_reducible exact Out.refl _ _ | refine Out.set rfl ?_ | refine Out.put rfl ?_ | refine Out.sets rfl ?_ | refine Out.hav rfl ?_ | exact Out.refl _ _)), ⟨rfl, by rw [hcs]; rfl, trivial⟩, ?_, by omega, by omega⟩
      rw [← mkP_skip hmb]
      exact .refl _
  · obtain rfl : i = m := by omega
    rw [mkP_all]
    (refine WC.seq ?_; intro K hK)
    refine WC.region rfl ?_
    refine WL.want rfl (WL1.give rfl (g_lt rfl (.mk rfl rfl) (.mk rfl rfl) (decide_eq_false (by omega))) ?_)
    refine WL.nil ?_
    (refine hK _ _ ?_; clear hK)
    (refine WC.seq ?_; intro K hK)
    refine WC.cond_false (.mk rfl rfl) ?_
    refine WC.exit ?_
    (clear hK; refine hK _ _ ?_; clear hK)
    (refine WC.seq ?_; intro K hK)
    refine WC.region rfl ?_
    refine WL.want rfl (WL1.give rfl (g_move rfl (.mk (v := .slice _ _ _) rfl rfl)) ?_)
    refine WL.want rfl (WL1.give rfl (g_assign rfl (.mk (v := .slice _ _ _) rfl rfl)) ?_)
    refine WL.nil ?_
    (refine hK _ _ ?_; clear hK)
    refine WC.ret ?_
    exact fun w' hw' => ⟨_, _, rfl, hw', b9, rfl, rfl⟩
end Go.Proofs.Ytdcijljfgcjelaa
