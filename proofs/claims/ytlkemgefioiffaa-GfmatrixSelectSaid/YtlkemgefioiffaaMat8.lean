/- independent, Rank and LeftInverse, walked. No condition. -/
import Derived.Test.YtlkemgefioiffaaMat7
namespace Go.Proofs.Ytlkemgefioiffaa
open Go.RowKit
attribute [local irreducible] Calls
theorem add_none {w0 w : World} {L0 : List Asrt} {bb : Nat} {R X : Option Addr} {rc xc : Nat} {rs : List Row} {ld : List Nat} {vr : Value} {row : List G} (hB : Bok row.length (els rs) ld) (hn1 : 1 ≤ row.length) (hn : row.length ≤ 64) (hbl : rs.length ≤ 1000) (hvr : Sl w0 1 vr row.length (bvs row)) (hp : addB (els rs) ld row = none) (hw : H w0 (basL bb R rc X xc rs ld ++ L0) w) :
    Calls Try.prog 46 #[cellPtr (some ⟨bb, 0, none⟩) 0, vr] w fun e w' => ∃ v L', e = .returned v ∧ H w0 L' w' ∧ v = .bool false ∧ L' = basL bb R rc X xc rs ld ++ L0 :=
  (add_f hB hn1 hn hbl hvr hw).mono fun e w' ⟨v, L', he, hH, h⟩ => ⟨v, L', he, hH, by
    rcases h with ⟨_, h2, h3⟩ | ⟨p, _, _, _, _, _, h1, _⟩
    · exact ⟨h2, h3⟩
    · rw [hp] at h1; cases h1⟩
theorem add_some {w0 w : World} {L0 : List Asrt} {bb : Nat} {R X : Option Addr} {rc xc : Nat} {rs : List Row} {ld : List Nat} {vr : Value} {row : List G} {p : List (List G) × List Nat} (hB : Bok row.length (els rs) ld) (hn1 : 1 ≤ row.length) (hn : row.length ≤ 64) (hbl : rs.length ≤ 1000) (hvr : Sl w0 1 vr row.length (bvs row)) (hp : addB (els rs) ld row = some p) (hw : H w0 (basL bb R rc X xc rs ld ++ L0) w) :
    Calls Try.prog 46 #[cellPtr (some ⟨bb, 0, none⟩) 0, vr] w fun e w' => ∃ v L', e = .returned v ∧ H w0 L' w' ∧ ∃ R' rc' X' xc' rs', v = .bool true ∧ L' = basL bb R' rc' X' xc' rs' p.2 ++ L0 ∧ els rs' = p.1 :=
  (add_f hB hn1 hn hbl hvr hw).mono fun e w' ⟨v, L', he, hH, h⟩ => ⟨v, L', he, hH, by
    rcases h with ⟨h1, _, _⟩ | ⟨q, R', rc', X', xc', rs', h1, h2, h3, h4⟩
    · rw [hp] at h1; cases h1
    · rw [hp] at h1
      injection h1 with h1
      subst h1
      exact ⟨R', rc', X', xc', rs', h2, h3, h4⟩⟩
structure BasS where
  R : Option Addr
  rc : Nat
  X : Option Addr
  xc : Nat
  rs : List Row
theorem ldv_one (ld : List Nat) : ∀ u ∈ ldv ld, u.oneCell' = true := fun u hu => by
  obtain ⟨x, _, rfl⟩ := List.mem_map.1 hu
  rfl
theorem indep_len {m : List (List G)} : (indep m).length = (indS m m.length).2.2.length := rfl
set_option maxRecDepth 20000 in
set_option maxHeartbeats 2000000 in
theorem independent_n (va : Value) (ra : List Row) (w : World) (ha : MatAt w va ra) (hg : Good (els ra)) :
    Calls Try.prog 43 #[va] w fun e w' => ∃ v' M, e = .returned v' ∧ H w M w' ∧ ∃ A c, v' = .slice A (indep (els ra)).length c ∧ M = [vec A (indep (els ra)).length c 3 1 (ldv (indep (els ra)))] := by
  obtain ⟨A, c, rfl, hcc, hm, hs⟩ := ha.1.open_
  obtain ⟨g1, g2, g3, g4⟩ := hg.parts
  obtain ⟨m, hmm⟩ : ∃ m, m = els ra := ⟨_, rfl⟩
  obtain ⟨n, hn⟩ : ∃ n, n = (nth ra 0).l.length := ⟨_, rfl⟩
  have hml : m.length = ra.length := by rw [hmm, els_len]
  have hrow : ∀ i, i < ra.length → (nth ra i).l.length = n := fun i hi => by rw [hg.row hi, hn]
  have hmi : ∀ i, i < ra.length → nth m i = (nth ra i).l := fun i hi => by rw [hmm, els_at hi]
  have hok := indS_ok (m := m) (n := n) fun i hi => by rw [hmi i (by omega)]; exact hrow i (by omega)
  refine calls_wc (args := [.slice A ra.length c]) [2] [] Try.func43 rfl Try.ntmps43 rfl rfl rfl rfl (H.refl w) ?_
  (refine WC.seq ?_; intro K hK)
  refine WC.region rfl ?_
  refine WL.want rfl (WL1.give rfl (g_assign rfl (.mk (v := .slice _ _ _) rfl rfl)) ?_)
  refine WL.nil ?_
  (refine hK _ _ ?_; clear hK)
  (refine WC.seq ?_; intro K hK)
  refine WC.region rfl ?_
  refine WL.want rfl (WL1.give rfl (g_build (cs := [_, _]) rfl rfl rfl rfl .nil rfl rfl rfl) ?_)
  refine WL.want rfl (WL1.box rfl rfl (.mk (v := .agg _) rfl rfl) rfl (fun b8 => ?_))
  refine WL.want rfl (WL1.give rfl (g_assign rfl (.mk (v := cellPtr _ _) rfl rfl)) ?_)
  refine WL.nil ?_
  (refine hK _ _ ?_; clear hK)
  (refine WC.seq ?_; intro K hK)
  refine WC.region rfl ?_
  refine WL.want rfl (WL1.give rfl (g_assign rfl (.mk (v := .slice _ _ _) rfl rfl)) ?_)
  refine WL.nil ?_
  (refine hK _ _ ?_; clear hK)
  (refine WC.seq ?_; intro K hK)
  (refine WC.seq ?_; intro K hK)
  refine WC.region rfl ?_
  refine WL.want rfl (WL1.give rfl (g_move rfl (.mk (v := .slice _ _ _) rfl rfl)) ?_)
  refine WL.want rfl (WL1.give rfl (g_len rfl (.mk rfl rfl) rfl) ?_)
  refine WL.want rfl (WL1.give rfl (g_move rfl (.mk (v := .int _ _) rfl rfl)) ?_)
  refine WL.nil ?_
  (refine hK _ _ ?_; clear hK)
  refine WC.block ?_
  refine WC.nilvec 3 1 (WC.nilvec 3 1 (WC.nilvec 28 1 ?_))
  refine WC.loopI4 (16775280) (fun (i : Nat) (s : BasS) (O : Option Addr) (oc : Nat) => [(11, iv i), (4, .slice O (indS m i).2.2.length oc)]) (fun i s O oc => basL b8 s.R s.rc s.X s.xc s.rs (indS m i).2.1 ++ [vec O (indS m i).2.2.length oc 3 1 (ldv (indS m i).2.2)]) (fun i s _ _ => i ≤ ra.length ∧ els s.rs = (indS m i).1) (fun i _ _ _ => ra.length - i) 0 ⟨none, 0, none, 0, []⟩ none 0 ⟨rfl, rfl, trivial⟩ ?_ ⟨by omega, rfl⟩ ?_
  · refine Imp.trans (Imp.rows_nil _) ?_
    exact Imp.pick (A := pt b8 73 [.slice none 0 0, .slice none 0 0]) (by repeat (first | exact .head | apply Take.tail)) (Imp.pick (A := vec none 0 0 28 1 []) (by repeat (first | exact .head | apply Take.tail)) (Imp.pick (A := rowsA []) (by repeat (first | exact .head | apply Take.tail)) (Imp.pick (A := vec none 0 0 3 1 []) (by repeat (first | exact .head | apply Take.tail)) (Imp.pick (A := vec none 0 0 3 1 []) (by repeat (first | exact .head | apply Take.tail)) (Imp.nil _)))))
  · rintro i s O oc U ⟨hi, hse⟩
    by_cases hlt : i < ra.length
    · obtain ⟨hb1, hb2, hb3⟩ := hok i (by omega)
      have hrl := hrow i hlt
      have hsl : s.rs.length = (indS m i).1.length := by rw [← hse, els_len]
      have hBk : Bok (nth ra i).l.length (els s.rs) (indS m i).2.1 := by rw [hrl, hse]; exact hb1
      have hstep : indS m (i + 1) = match addB (els s.rs) (indS m i).2.1 (nth ra i).l with | none => indS m i | some p => (p.1, p.2, (indS m i).2.2 ++ [i]) := by rw [indS, hse, hmi i hlt]; rfl
      cases hp : addB (els s.rs) (indS m i).2.1 (nth ra i).l with
      | none =>
        rw [hp] at hstep
        replace hstep : indS m (i + 1) = indS m i := hstep
        (refine WC.seq ?_; intro K hK)
        refine WC.region rfl ?_
        refine WL.want rfl (WL1.give rfl (g_lt rfl (.mk rfl rfl) (.mk rfl rfl) (decide_eq_true (by omega))) ?_)
        refine WL.nil ?_
        (refine hK _ _ ?_; clear hK)
        (refine WC.seq ?_; intro K hK)
        refine WC.cond_true (.mk rfl rfl) ?_
        refine WC.skip ?_
        (refine hK _ _ ?_; clear hK)
        (refine WC.seq ?_; intro K hK)
        refine WC.block ?_
        (refine WC.seq ?_; intro K hK)
        refine WC.region rfl ?_
        refine WL.want rfl (WL1.give rfl (g_move rfl (.mk (v := .int _ _) rfl rfl)) ?_)
        refine WL.want rfl (WL1.give rfl (g_indexAddr (sz := 1) rfl (.mk rfl rfl) (.mk rfl rfl) rfl rfl rfl (by omega) (fun _ _ => sl_some hs (by omega))) ?_)
        refine WL.want rfl (WL1.give rfl (g_load rfl (.mk rfl rfl) rfl (rd_sl hs (get1 (by omega)))) ?_)
        refine WL.want rfl (WL1.give rfl (g_assign rfl (.mk (v := .int _ _) rfl rfl)) ?_)
        refine WL.want rfl (WL1.give rfl (g_assign rfl (.mk (v := .slice _ _ _) rfl rfl)) ?_)
        refine WL.nil ?_
        (refine hK _ _ ?_; clear hK)
        (refine WC.seq ?_; intro K hK)
        refine WC.region rfl ?_
        refine WL.want rfl (WL1.give rfl (g_move rfl (.mk (v := cellPtr _ _) rfl rfl)) ?_)
        refine WL.want rfl (WL1.give rfl (g_move rfl (.mk (v := .slice _ _ _) rfl rfl)) ?_)
        (refine WL.want rfl (WL1.callF rfl rfl rfl (.cons (.mk (v := cellPtr _ _) rfl rfl) (.cons (.mk (v := .slice _ _ _) rfl rfl) .nil)) (fun w hw => add_none hBk (by omega) (by omega) (by omega) (ha.row hlt) hp hw) ?_); rintro _ _ ⟨rfl, rfl⟩)
        refine WL.nil ?_
        (refine hK _ _ ?_; clear hK)
        refine WC.cond_false (.mk rfl rfl) ?_
        refine WC.skip ?_
        (refine hK _ _ ?_; clear hK)
        refine WC.region rfl ?_
        refine WL.want rfl (WL1.give rfl (g_add rfl (.mk rfl rfl) (.mk rfl rfl) (IntWalk.i64_in _ (by omega))) ?_)
        refine WL.want rfl (WL1.give rfl (g_move rfl (.mk (v := .int _ _) rfl rfl)) ?_)
        refine WL.nil ?_
        exact ⟨i + 1, s, O, oc, (by repeat (first | with_reducible exact Out.refl _ _ | refine Out.set rfl ?_ | refine Out.put rfl ?_ | refine Out.sets rfl ?_ | refine Out.hav rfl ?_ | exact Out.refl _ _)), by rw [hstep]; exact ⟨rfl, rfl, trivial⟩, by rw [hstep]; exact .refl _, ⟨by omega, by rw [hstep]; exact hse⟩, by omega⟩
      | some p =>
        rw [hp] at hstep
        replace hstep : indS m (i + 1) = (p.1, p.2, (indS m i).2.2 ++ [i]) := hstep
        have hl1 : ((indS m i).2.2 ++ [i]).length = (indS m i).2.2.length + 1 := by rw [List.length_append]; rfl
        have hl2 : ldv ((indS m i).2.2 ++ [i]) = ldv (indS m i).2.2 ++ [iv i] := by unfold ldv; rw [List.map_append]; rfl
        (refine WC.seq ?_; intro K hK)
        refine WC.region rfl ?_
        refine WL.want rfl (WL1.give rfl (g_lt rfl (.mk rfl rfl) (.mk rfl rfl) (decide_eq_true (by omega))) ?_)
        refine WL.nil ?_
        (refine hK _ _ ?_; clear hK)
        (refine WC.seq ?_; intro K hK)
        refine WC.cond_true (.mk rfl rfl) ?_
        refine WC.skip ?_
        (refine hK _ _ ?_; clear hK)
        (refine WC.seq ?_; intro K hK)
        refine WC.block ?_
        (refine WC.seq ?_; intro K hK)
        refine WC.region rfl ?_
        refine WL.want rfl (WL1.give rfl (g_move rfl (.mk (v := .int _ _) rfl rfl)) ?_)
        refine WL.want rfl (WL1.give rfl (g_indexAddr (sz := 1) rfl (.mk rfl rfl) (.mk rfl rfl) rfl rfl rfl (by omega) (fun _ _ => sl_some hs (by omega))) ?_)
        refine WL.want rfl (WL1.give rfl (g_load rfl (.mk rfl rfl) rfl (rd_sl hs (get1 (by omega)))) ?_)
        refine WL.want rfl (WL1.give rfl (g_assign rfl (.mk (v := .int _ _) rfl rfl)) ?_)
        refine WL.want rfl (WL1.give rfl (g_assign rfl (.mk (v := .slice _ _ _) rfl rfl)) ?_)
        refine WL.nil ?_
        (refine hK _ _ ?_; clear hK)
        (refine WC.seq ?_; intro K hK)
        refine WC.region rfl ?_
        refine WL.want rfl (WL1.give rfl (g_move rfl (.mk (v := cellPtr _ _) rfl rfl)) ?_)
        refine WL.want rfl (WL1.give rfl (g_move rfl (.mk (v := .slice _ _ _) rfl rfl)) ?_)
        (refine WL.want rfl (WL1.callF rfl rfl rfl (.cons (.mk (v := cellPtr _ _) rfl rfl) (.cons (.mk (v := .slice _ _ _) rfl rfl) .nil)) (fun w hw => add_some hBk (by omega) (by omega) (by omega) (ha.row hlt) hp hw) ?_); rintro _ _ ⟨R', rc', X', xc', rs', rfl, rfl, hrs'⟩)
        refine WL.nil ?_
        (refine hK _ _ ?_; clear hK)
        refine WC.cond_true (.mk rfl rfl) ?_
        refine WC.region rfl ?_
        refine WL.want rfl (WL1.give rfl (g_move rfl (.mk (v := .slice _ _ _) rfl rfl)) ?_)
        refine WL.want rfl (WL1.give rfl (g_move rfl (.mk (v := .int _ _) rfl rfl)) ?_)
        refine WL.want rfl (WL1.lit (cs := [_]) elI rfl rfl rfl (.cons (.mk (v := .int _ _) rfl rfl) .nil) rfl (by first | (simp [Value.cells]; done) | fail) rfl rfl (fun b21 => ?_))
        refine WL.want rfl (WL1.append elI rfl rfl (.mk rfl rfl) (.mk rfl rfl) (.tail (.tail (.tail (.tail (.tail (.head)))))) (fun w hw => Sl.of_vec hw (.head _)) (all1 rfl) (by unfold maxLen; omega) (by omega) (fun A22 c22 => ?_))
        refine WL.want rfl (WL1.give rfl (g_assign rfl (.mk (v := .slice _ _ _) rfl rfl)) ?_)
        refine WL.nil ?_
        (refine hK _ _ ?_; clear hK)
        refine WC.region rfl ?_
        refine WL.want rfl (WL1.give rfl (g_add rfl (.mk rfl rfl) (.mk rfl rfl) (IntWalk.i64_in _ (by omega))) ?_)
        refine WL.want rfl (WL1.give rfl (g_move rfl (.mk (v := .int _ _) rfl rfl)) ?_)
        refine WL.nil ?_
        refine ⟨i + 1, ⟨R', rc', X', xc', rs'⟩, A22, c22, (by repeat (first | with_reducible exact Out.refl _ _ | refine Out.set rfl ?_ | refine Out.put rfl ?_ | refine Out.sets rfl ?_ | refine Out.hav rfl ?_ | exact Out.refl _ _)), by rw [hstep]; show Agree _ [(11, iv ((i + 1 : Nat) : Int)), (4, .slice A22 ((indS m i).2.2 ++ [i]).length c22)]; rw [hl1]; exact ⟨rfl, rfl, trivial⟩, ?_, ⟨by omega, by rw [hstep]; exact hrs'⟩, by omega⟩
        rw [hstep]
        show Imp _ (basL b8 R' rc' X' xc' rs' p.2 ++ [vec A22 ((indS m i).2.2 ++ [i]).length c22 3 1 (ldv ((indS m i).2.2 ++ [i]))])
        rw [hl1, hl2]
        exact Imp.pick (by repeat (first | exact .head | apply Take.tail)) (Imp.pick (by repeat (first | exact .head | apply Take.tail)) (Imp.pick (by repeat (first | exact .head | apply Take.tail)) (Imp.pick (by repeat (first | exact .head | apply Take.tail)) (Imp.pick (by repeat (first | exact .head | apply Take.tail)) (Imp.nil _)))))
    · obtain rfl : i = ra.length := by omega
      (refine WC.seq ?_; intro K hK)
      refine WC.region rfl ?_
      refine WL.want rfl (WL1.give rfl (g_lt rfl (.mk rfl rfl) (.mk rfl rfl) (decide_eq_false (by omega))) ?_)
      refine WL.nil ?_
      (refine hK _ _ ?_; clear hK)
      (refine WC.seq ?_; intro K hK)
      refine WC.cond_false (.mk rfl rfl) ?_
      refine WC.exit ?_
      (clear hK; refine hK _ _ ?_; clear hK)
      (refine WC.seq ?_; intro K hK)
      refine WC.region rfl ?_
      refine WL.want rfl (WL1.give rfl (g_move rfl (.mk (v := .slice _ _ _) rfl rfl)) ?_)
      refine WL.want rfl (WL1.give rfl (g_assign rfl (.mk (v := .slice _ _ _) rfl rfl)) ?_)
      refine WL.nil ?_
      (refine hK _ _ ?_; clear hK)
      refine WC.ret ?_
      refine fun w' hw' => ⟨_, _, rfl, (Imp.pick (A := vec O (indS m ra.length).2.2.length oc 3 1 (ldv (indS m ra.length).2.2)) (by repeat (first | exact .head | apply Take.tail)) (Imp.nil _)).h hw', O, oc, ?_, ?_⟩
      · show Value.slice O (indS m ra.length).2.2.length oc = _
        rw [indep, ← hmm, hml]
      · rw [indep, ← hmm, hml]
set_option maxRecDepth 20000 in
set_option maxHeartbeats 1000000 in
theorem rank_e (va : Value) (ra : List Row) (w : World) (ha : MatAt w va ra) (hg : Good (els ra)) : Calls Try.prog 24 #[va] w fun e w' => e = .returned (.tuple #[iv (indep (els ra)).length, iv 0]) ∧ Below w.heap.size w w' := by
  obtain ⟨A, c, rfl, hcc, hm, hs⟩ := ha.1.open_
  have hval := fun w' hb => valid_e _ ra w' (ha.below (w' := w') hb)
  rw [goodB_iff.2 hg] at hval
  refine calls_wc (args := [.slice A ra.length c]) [2, 3] [] Try.func24 rfl Try.ntmps24 rfl rfl rfl rfl (H.refl w) ?_
  (refine WC.seq ?_; intro K hK)
  refine WC.region rfl ?_
  refine WL.want rfl (WL1.give rfl (g_assign rfl (.mk (v := .int _ _) rfl rfl)) ?_)
  refine WL.want rfl (WL1.give rfl (g_assign rfl (.mk (v := .int _ _) rfl rfl)) ?_)
  refine WL.nil ?_
  (refine hK _ _ ?_; clear hK)
  (refine WC.seq ?_; intro K hK)
  (refine WC.seq ?_; intro K hK)
  refine WC.region rfl ?_
  refine WL.want rfl (WL1.give rfl (g_move rfl (.mk (v := .slice _ _ _) rfl rfl)) ?_)
  refine WL.want rfl (WL1.callP rfl rfl rfl (.cons (.mk (v := .slice _ _ _) rfl rfl) .nil) (fun w hw => hval w hw.1) ?_)
  refine WL.want rfl (WL1.give rfl (g_notT rfl (.mk rfl rfl)) ?_)
  refine WL.nil ?_
  (refine hK _ _ ?_; clear hK)
  refine WC.cond_false (.mk rfl rfl) ?_
  refine WC.skip ?_
  (refine hK _ _ ?_; clear hK)
  (refine WC.seq ?_; intro K hK)
  refine WC.region rfl ?_
  refine WL.want rfl (WL1.give rfl (g_move rfl (.mk (v := .slice _ _ _) rfl rfl)) ?_)
  (refine WL.want rfl (WL1.callN rfl rfl rfl (.cons (.mk (v := .slice _ _ _) rfl rfl) .nil) (fun w hw => independent_n _ ra w (ha.below hw.1) hg) ?_); rintro _ _ ⟨Ai, ci, rfl, rfl⟩)
  refine WL.want rfl (WL1.give rfl (g_len rfl (.mk rfl rfl) rfl) ?_)
  refine WL.want rfl (WL1.give rfl (g_assign rfl (.mk (v := .int _ _) rfl rfl)) ?_)
  refine WL.want rfl (WL1.give rfl (g_assign rfl (.mk (v := .int _ _) rfl rfl)) ?_)
  refine WL.nil ?_
  (refine hK _ _ ?_; clear hK)
  refine WC.ret ?_
  exact fun w' hw' => ⟨rfl, hw'.1⟩
set_option maxRecDepth 20000 in
set_option maxHeartbeats 1000000 in
theorem rank_bad (va : Value) (ra : List Row) (w : World) (ha : MatAt w va ra) (hg : ¬ Good (els ra)) : Calls Try.prog 24 #[va] w fun e w' => e = .returned (.tuple #[iv 0, iv 1]) ∧ Below w.heap.size w w' := by
  obtain ⟨A, c, rfl, hcc, hm, hs⟩ := ha.1.open_
  have hval := fun w' hb => valid_e _ ra w' (ha.below (w' := w') hb)
  rw [goodB_no hg] at hval
  refine calls_wc (args := [.slice A ra.length c]) [2, 3] [] Try.func24 rfl Try.ntmps24 rfl rfl rfl rfl (H.refl w) ?_
  (refine WC.seq ?_; intro K hK)
  refine WC.region rfl ?_
  refine WL.want rfl (WL1.give rfl (g_assign rfl (.mk (v := .int _ _) rfl rfl)) ?_)
  refine WL.want rfl (WL1.give rfl (g_assign rfl (.mk (v := .int _ _) rfl rfl)) ?_)
  refine WL.nil ?_
  (refine hK _ _ ?_; clear hK)
  (refine WC.seq ?_; intro K hK)
  (refine WC.seq ?_; intro K hK)
  refine WC.region rfl ?_
  refine WL.want rfl (WL1.give rfl (g_move rfl (.mk (v := .slice _ _ _) rfl rfl)) ?_)
  refine WL.want rfl (WL1.callP rfl rfl rfl (.cons (.mk (v := .slice _ _ _) rfl rfl) .nil) (fun w hw => hval w hw.1) ?_)
  refine WL.want rfl (WL1.give rfl (g_notF rfl (.mk rfl rfl)) ?_)
  refine WL.nil ?_
  (refine hK _ _ ?_; clear hK)
  refine WC.cond_true (.mk rfl rfl) ?_
  (refine WC.seq ?_; intro K hK)
  refine WC.region rfl ?_
  refine WL.want rfl (WL1.give rfl (g_assign rfl (.mk (v := .int _ _) rfl rfl)) ?_)
  refine WL.want rfl (WL1.give rfl (g_assign rfl (.mk (v := .int _ _) rfl rfl)) ?_)
  refine WL.nil ?_
  (refine hK _ _ ?_; clear hK)
  refine WC.ret ?_
  exact fun w' hw' => ⟨rfl, hw'.1⟩
end Go.Proofs.Ytlkemgefioiffaa
