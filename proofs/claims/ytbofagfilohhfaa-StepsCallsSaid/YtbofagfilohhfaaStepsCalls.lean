/- StepsCalls answers true, whatever the calls: the scheduler returns the specified identifiers, results and errors, and has the specified machines and credits. No condition. -/
import Derived.Test.YtbofagfilohhfaaOpenS
import Derived.Test.YtbofagfilohhfaaOpen
namespace Go.Proofs.Ytbofagfilohhfaa.LStepsCalls
set_option maxRecDepth 20000
open Go.RowKit Go.WideShapes Go.ChangeShapes Go.ChangeAt
attribute [local irreducible] Calls

set_option maxRecDepth 20000 in
set_option maxHeartbeats 4000000 in
theorem walk (w : World) (v : Value) (ps : List Ac) (hv : Sl w 3 v ps.length (acv ps)) (hpr : ∀ x ∈ ps, x.ok) :
    Calls Try.prog 7 #[v] w fun en w' => en = .returned (.bool true) ∧ Below w.heap.size w w' := by
  obtain ⟨V, cV, rfl, _, hm, hs⟩ := hv.open_
  by_cases hn' : 200 < ps.length
  · refine calls_wc (args := [.slice V ps.length cV]) [2] [] Try.func7 rfl Try.ntmps7 rfl rfl rfl rfl (H.refl _) ?_
    (refine WC.seq ?_; intro K hK)
    refine WC.region rfl ?_
    refine WL.want rfl (WL1.give rfl (g_assign rfl (.mk (v := .bool _) rfl rfl)) ?_)
    refine WL.nil ?_
    (refine hK _ _ ?_; clear hK)
    (refine WC.seq ?_; intro K hK)
    (refine WC.seq ?_; intro K hK)
    refine WC.region rfl ?_
    refine WL.want rfl (WL1.callP rfl rfl rfl .nil (fun w hw => awake_e) ?_)
    refine WL.want rfl (WL1.give rfl (g_notT rfl (.mk rfl rfl)) ?_)
    refine WL.nil ?_
    (refine hK _ _ ?_; clear hK)
    refine WC.cond_false (.mk rfl rfl) ?_
    refine WC.skip ?_
    (refine hK _ _ ?_; clear hK)
    (refine WC.seq ?_; intro K hK)
    (refine WC.seq ?_; intro K hK)
    refine WC.region rfl ?_
    refine WL.want rfl (WL1.give rfl (g_move rfl (.mk (v := .slice _ _ _) rfl rfl)) ?_)
    refine WL.want rfl (WL1.give rfl (g_len rfl (.mk rfl rfl) rfl) ?_)
    refine WL.want rfl (WL1.give rfl (g_gt rfl (.mk rfl rfl) (.mk rfl rfl) (decide_eq_true (by omega))) ?_)
    refine WL.nil ?_
    (refine hK _ _ ?_; clear hK)
    refine WC.cond_true (.mk rfl rfl) ?_
    (refine WC.seq ?_; intro K hK)
    refine WC.region rfl ?_
    refine WL.want rfl (WL1.give rfl (g_assign rfl (.mk (v := .bool _) rfl rfl)) ?_)
    refine WL.nil ?_
    (refine hK _ _ ?_; clear hK)
    refine WC.ret ?_
    exact fun w' hw' => ⟨rfl, hw'.1⟩
  refine calls_wc (args := [.slice V ps.length cV]) [2] [] Try.func7 rfl Try.ntmps7 rfl rfl rfl rfl (H.refl _) ?_
  (refine WC.seq ?_; intro K hK)
  refine WC.region rfl ?_
  refine WL.want rfl (WL1.give rfl (g_assign rfl (.mk (v := .bool _) rfl rfl)) ?_)
  refine WL.nil ?_
  (refine hK _ _ ?_; clear hK)
  (refine WC.seq ?_; intro K hK)
  (refine WC.seq ?_; intro K hK)
  refine WC.region rfl ?_
  refine WL.want rfl (WL1.callP rfl rfl rfl .nil (fun w hw => awake_e) ?_)
  refine WL.want rfl (WL1.give rfl (g_notT rfl (.mk rfl rfl)) ?_)
  refine WL.nil ?_
  (refine hK _ _ ?_; clear hK)
  refine WC.cond_false (.mk rfl rfl) ?_
  refine WC.skip ?_
  (refine hK _ _ ?_; clear hK)
  (refine WC.seq ?_; intro K hK)
  (refine WC.seq ?_; intro K hK)
  refine WC.region rfl ?_
  refine WL.want rfl (WL1.give rfl (g_move rfl (.mk (v := .slice _ _ _) rfl rfl)) ?_)
  refine WL.want rfl (WL1.give rfl (g_len rfl (.mk rfl rfl) rfl) ?_)
  refine WL.want rfl (WL1.give rfl (g_gt rfl (.mk rfl rfl) (.mk rfl rfl) (decide_eq_false (by omega))) ?_)
  refine WL.nil ?_
  (refine hK _ _ ?_; clear hK)
  refine WC.cond_false (.mk rfl rfl) ?_
  refine WC.skip ?_
  (refine hK _ _ ?_; clear hK)
  (refine WC.seq ?_; intro K hK)
  refine WC.region rfl ?_
  (refine WL.want rfl (WL1.callN rfl rfl rfl .nil (fun w hw => new_n) ?_); rintro _ _ ⟨S, rfl, rfl⟩)
  refine WL.want rfl (WL1.give rfl (g_build (cs := [_, _]) rfl rfl rfl rfl .nil rfl rfl rfl) ?_)
  refine WL.want rfl (WL1.box rfl rfl (.mk (v := .agg _) rfl rfl) rfl (fun b16 => ?_))
  refine WL.want rfl (WL1.give rfl (g_assign rfl (.mk (v := cellPtr _ _) rfl rfl)) ?_)
  refine WL.want rfl (WL1.give rfl (g_assign rfl (.mk (v := cellPtr _ _) rfl rfl)) ?_)
  refine WL.nil ?_
  (refine hK _ _ ?_; clear hK)
  (refine WC.seq ?_; intro K hK)
  (refine WC.seq ?_; intro K hK)
  refine WC.region rfl ?_
  refine WL.want rfl (WL1.give rfl (g_move rfl (.mk (v := .slice _ _ _) rfl rfl)) ?_)
  refine WL.want rfl (WL1.give rfl (g_len rfl (.mk rfl rfl) rfl) ?_)
  refine WL.want rfl (WL1.give rfl (g_move rfl (.mk (v := .int _ _) rfl rfl)) ?_)
  refine WL.nil ?_
  (refine hK _ _ ?_; clear hK)
  refine WC.block ?_
  refine WC.nilvec RJT 4 ?_
  refine WC.loopI5 (2361183241434822082884) (fun (i : Nat) (Ac : Option Addr × Nat) (Dc : Option Addr × Nat) (es : List En) (js : List Jb) => [(19, iv i)]) (fun i Ac Dc es js => schd S Ac.1 Ac.2 js.length es ++ jbs js :: rschd b16 Dc.1 Dc.2 js.length (rOf js es)) (fun i _ _ es js => i ≤ ps.length ∧ CS i es js) (fun i _ _ _ _ => ps.length - i) 0 (none, 0) (none, 0) [] [] ⟨rfl, trivial⟩ ?_ ⟨by omega, CS.zero⟩ ?_
  · refine Imp.trans (M := schd S none 0 0 [] ++ pt b16 RT [.slice none 0 0, iv 0] :: vec none 0 0 RJT 4 [] :: []) ?_ (Imp.cons (Imp.cons (Imp.cons jbs_none)))
    exact Imp.pick (by repeat (first | exact .head | apply Take.tail)) (Imp.pick (by repeat (first | exact .head | apply Take.tail)) (Imp.pick (by repeat (first | exact .head | apply Take.tail)) (Imp.pick (by repeat (first | exact .head | apply Take.tail)) (Imp.pick (by repeat (first | exact .head | apply Take.tail)) (Imp.nil _)))))
  rintro i ⟨A, c⟩ ⟨D, cD⟩ es js U ⟨hi, hC⟩
  dsimp only
  by_cases hlt : i < ps.length
  · obtain ⟨⟨k1, k2⟩, ⟨n1, n2⟩, -⟩ := hpr (nth ps i) (nth_mem hlt)
    have hga : ∀ j u, (nth ps i).cells[j]? = some u → (acv ps)[i * 3 + j]? = some u := fun j u h => flat_row (enc := Ac.cells) (sz := 3) (fun _ _ => rfl) hlt j u h
    obtain ⟨kd, n, mo, hx⟩ : ∃ kd n mo, nth ps i = ⟨kd, n, mo⟩ := ⟨_, _, _, rfl⟩
    rw [hx] at hga k1 k2 n1 n2
    dsimp only at k1 k2 n1 n2
    replace hga : ∀ j u, ([iv kd, iv n, iv mo] : List Value)[j]? = some u → (acv ps)[i * 3 + j]? = some u := hga
    by_cases hk1 : kd < 0
    · (refine WC.seq ?_; intro K hK)
      refine WC.region rfl ?_
      refine WL.want rfl (WL1.give rfl (g_lt rfl (.mk rfl rfl) (.mk rfl rfl) (decide_eq_true (by omega))) ?_)
      refine WL.nil ?_
      (refine hK _ _ ?_; clear hK)
      (refine WC.seq ?_; intro K hK)
      refine WC.cond_true (.mk rfl rfl) ?_
      refine WC.skip ?_
      (refine hK _ _ ?_; clear hK)
      (refine WC.seq ?_; intro K hK)
      refine WC.block ?_
      (refine WC.seq ?_; intro K hK)
      refine WC.region rfl ?_
      refine WL.want rfl (WL1.give rfl (g_indexAddr (sz := 3) rfl (.mk rfl rfl) (.mk rfl rfl) rfl rfl rfl (by omega) (fun _ _ => sl_some hs (by omega))) ?_)
      refine WL.want rfl (WL1.give rfl (g_loadA rfl (.mk rfl rfl) rfl rfl (rdr_sl (cs := [iv kd, iv n, iv mo]) hs (by omega) hga)) ?_)
      refine WL.want rfl (WL1.alloc rfl rfl rfl rfl (fun b6 => ?_))
      refine WL.want rfl (WL1.storeAll rfl rfl (.mk rfl rfl) (.mk rfl rfl) rfl (all1 rfl) (by first | rfl | (simp [Blk.len]; done)) (.head) ?_)
      refine WL.nil ?_
      (refine hK _ _ ?_; clear hK)
      (refine WC.seq ?_; intro K hK)
      (refine WC.seq ?_; intro K hK)
      refine WC.region rfl ?_
      refine WL.want rfl (WL1.give rfl (g_fieldAddr (off := 0) rfl (.mk rfl rfl) rfl (fun _ _ => rfl)) ?_)
      refine WL.want rfl (WL1.give rfl (g_load rfl (.mk rfl rfl) rfl (rd_pt (.head _) rfl)) ?_)
      refine WL.want rfl (WL1.give rfl (g_lt rfl (.mk rfl rfl) (.mk rfl rfl) (decide_eq_true (by omega))) ?_)
      refine WL.want rfl (WL1.give rfl (g_move rfl (.mk (v := .bool _) rfl rfl)) ?_)
      refine WL.skipG rfl rfl rfl rfl rfl rfl ?_
      refine WL.skipG rfl rfl rfl rfl rfl rfl ?_
      refine WL.skipG rfl rfl rfl rfl rfl rfl ?_
      refine WL.want rfl (WL1.give rfl (g_pickT rfl (.mk rfl rfl) (.mk (v := .bool _) rfl rfl)) ?_)
      refine WL.nil ?_
      (refine hK _ _ ?_; clear hK)
      refine WC.cond_true (.mk rfl rfl) ?_
      refine WC.exit ?_
      (clear hK; refine hK _ _ ?_; clear hK)
      refine WC.region rfl ?_
      refine WL.want rfl (WL1.give rfl (g_add rfl (.mk rfl rfl) (.mk rfl rfl) (IntWalk.i64_in _ (by omega))) ?_)
      refine WL.want rfl (WL1.give rfl (g_move rfl (.mk (v := .int _ _) rfl rfl)) ?_)
      refine WL.nil ?_
      exact ⟨i + 1, (A, c), (D, cD), es, js, (by repeat (first | with_reducible exact Out.refl _ _ | refine Out.set rfl ?_ | refine Out.put rfl ?_ | refine Out.sets rfl ?_ | refine Out.hav rfl ?_ | exact Out.refl _ _)), ⟨rfl, trivial⟩, Imp.sub (.cons _ (.refl _)), ⟨by omega, hC.succ⟩, by omega⟩
    by_cases hk3 : 3 < kd
    · (refine WC.seq ?_; intro K hK)
      refine WC.region rfl ?_
      refine WL.want rfl (WL1.give rfl (g_lt rfl (.mk rfl rfl) (.mk rfl rfl) (decide_eq_true (by omega))) ?_)
      refine WL.nil ?_
      (refine hK _ _ ?_; clear hK)
      (refine WC.seq ?_; intro K hK)
      refine WC.cond_true (.mk rfl rfl) ?_
      refine WC.skip ?_
      (refine hK _ _ ?_; clear hK)
      (refine WC.seq ?_; intro K hK)
      refine WC.block ?_
      (refine WC.seq ?_; intro K hK)
      refine WC.region rfl ?_
      refine WL.want rfl (WL1.give rfl (g_indexAddr (sz := 3) rfl (.mk rfl rfl) (.mk rfl rfl) rfl rfl rfl (by omega) (fun _ _ => sl_some hs (by omega))) ?_)
      refine WL.want rfl (WL1.give rfl (g_loadA rfl (.mk rfl rfl) rfl rfl (rdr_sl (cs := [iv kd, iv n, iv mo]) hs (by omega) hga)) ?_)
      refine WL.want rfl (WL1.alloc rfl rfl rfl rfl (fun b6 => ?_))
      refine WL.want rfl (WL1.storeAll rfl rfl (.mk rfl rfl) (.mk rfl rfl) rfl (all1 rfl) (by first | rfl | (simp [Blk.len]; done)) (.head) ?_)
      refine WL.nil ?_
      (refine hK _ _ ?_; clear hK)
      (refine WC.seq ?_; intro K hK)
      (refine WC.seq ?_; intro K hK)
      refine WC.region rfl ?_
      refine WL.want rfl (WL1.give rfl (g_fieldAddr (off := 0) rfl (.mk rfl rfl) rfl (fun _ _ => rfl)) ?_)
      refine WL.want rfl (WL1.give rfl (g_load rfl (.mk rfl rfl) rfl (rd_pt (.head _) rfl)) ?_)
      refine WL.want rfl (WL1.give rfl (g_lt rfl (.mk rfl rfl) (.mk rfl rfl) (decide_eq_false (by omega))) ?_)
      refine WL.want rfl (WL1.give rfl (g_move rfl (.mk (v := .bool _) rfl rfl)) ?_)
      refine WL.wantG rfl rfl rfl rfl (WL1.give rfl (g_fieldAddr (off := 0) rfl (.mk rfl rfl) rfl (fun _ _ => rfl)) ?_)
      refine WL.wantG rfl rfl rfl rfl (WL1.give rfl (g_load rfl (.mk rfl rfl) rfl (rd_pt (.head _) rfl)) ?_)
      refine WL.wantG rfl rfl rfl rfl (WL1.give rfl (g_gt rfl (.mk rfl rfl) (.mk rfl rfl) (decide_eq_true (by omega))) ?_)
      refine WL.want rfl (WL1.give rfl (g_pickF rfl (.mk rfl rfl) (.mk (v := .bool _) rfl rfl)) ?_)
      refine WL.nil ?_
      (refine hK _ _ ?_; clear hK)
      refine WC.cond_true (.mk rfl rfl) ?_
      refine WC.exit ?_
      (clear hK; refine hK _ _ ?_; clear hK)
      refine WC.region rfl ?_
      refine WL.want rfl (WL1.give rfl (g_add rfl (.mk rfl rfl) (.mk rfl rfl) (IntWalk.i64_in _ (by omega))) ?_)
      refine WL.want rfl (WL1.give rfl (g_move rfl (.mk (v := .int _ _) rfl rfl)) ?_)
      refine WL.nil ?_
      exact ⟨i + 1, (A, c), (D, cD), es, js, (by repeat (first | with_reducible exact Out.refl _ _ | refine Out.set rfl ?_ | refine Out.put rfl ?_ | refine Out.sets rfl ?_ | refine Out.hav rfl ?_ | exact Out.refl _ _)), ⟨rfl, trivial⟩, Imp.sub (.cons _ (.refl _)), ⟨by omega, hC.succ⟩, by omega⟩
    have hD0 : ∀ (L1 : List Asrt) w', H w (L1 ++ (schd S A c js.length es ++ jbs js :: rschd b16 D cD js.length (rOf js es))) w' → Calls Try.prog 17 #[bp S, actV kd n mo] w' (CallPost w (L1 ++ rschd b16 D cD js.length (rOf js es)) S i (nxt js.length (rOf js es) kd n mo)) := fun L1 w' hw' =>
      do_e hC (by omega) (by omega) (by omega) (hw'.perm ((List.perm_append_comm_assoc L1 (schd S A c js.length es) (jbs js :: rschd b16 D cD js.length (rOf js es))).trans (List.Perm.append_left _ List.perm_middle)))
    have hR0 : ∀ (L1 : List Asrt) w', H w (L1 ++ rschd b16 D cD js.length (rOf js es)) w' → Calls Try.prog 18 #[bp b16, actV kd n mo] w' (DoPost w L1 b16 (nxt js.length (rOf js es) kd n mo)) := fun L1 w' hw' =>
      rdo_e (by rw [rOf_len]; exact hC.len) (by omega) (by have := hC.cnt; omega) (rOf_bnd (hC.bnd.bnd (by omega))) (by omega) (by omega) (hw'.perm List.perm_append_comm)
    obtain ⟨x, b, y, hans⟩ := nxt_ans js.length (rOf js es) kd n mo
    generalize nxt js.length (rOf js es) kd n mo = r at hD0 hR0 hans
    obtain ⟨r1, r2, r3⟩ := r
    dsimp only at hans
    have HD : ∀ (L1 : List Asrt) w', H w (L1 ++ (schd S A c js.length es ++ jbs js :: rschd b16 D cD js.length (rOf js es))) w' → Calls Try.prog 17 #[bp S, actV kd n mo] w' fun e w'' => ∃ u L', e = .returned u ∧ H w L' w'' ∧ ∃ A' c' es' js', u = ansV x b y ∧ CS (i + 1) es' js' ∧ r2 = (js'.length : Int) ∧ r3 = rOf js' es' ∧ L' = schd S A' c' js'.length es' ++ jbs js' :: (L1 ++ rschd b16 D cD js.length (rOf js es)) := fun L1 w' hw' =>
      (hD0 L1 w' hw').mono fun e w'' ⟨u, L', he, hH, A', c', es', js', hcs, hr, hL⟩ => by
        injection hr with e1 e2
        injection e2 with e2 e3
        exact ⟨u, L', he, hH, A', c', es', js', e1.symm.trans hans, hcs, e2, e3, hL⟩
    have HR : ∀ (L1 : List Asrt) w', H w (L1 ++ rschd b16 D cD js.length (rOf js es)) w' → Calls Try.prog 18 #[bp b16, actV kd n mo] w' fun e w'' => ∃ u L', e = .returned u ∧ H w L' w'' ∧ ∃ D' c', u = ansV x b y ∧ L' = rschd b16 D' c' r2 r3 ++ L1 := fun L1 w' hw' =>
      (hR0 L1 w' hw').mono fun e w'' ⟨u, L', he, hH, D', c', hu, hL⟩ => ⟨u, L', he, hH, D', c', hu.trans hans, hL⟩
    clear hD0 hR0 hans
    have E := ans_eq x b y
    unfold ansV at E HD HR
    (refine WC.seq ?_; intro K hK)
    refine WC.region rfl ?_
    refine WL.want rfl (WL1.give rfl (g_lt rfl (.mk rfl rfl) (.mk rfl rfl) (decide_eq_true (by omega))) ?_)
    refine WL.nil ?_
    (refine hK _ _ ?_; clear hK)
    (refine WC.seq ?_; intro K hK)
    refine WC.cond_true (.mk rfl rfl) ?_
    refine WC.skip ?_
    (refine hK _ _ ?_; clear hK)
    (refine WC.seq ?_; intro K hK)
    refine WC.block ?_
    (refine WC.seq ?_; intro K hK)
    refine WC.region rfl ?_
    refine WL.want rfl (WL1.give rfl (g_indexAddr (sz := 3) rfl (.mk rfl rfl) (.mk rfl rfl) rfl rfl rfl (by omega) (fun _ _ => sl_some hs (by omega))) ?_)
    refine WL.want rfl (WL1.give rfl (g_loadA rfl (.mk rfl rfl) rfl rfl (rdr_sl (cs := [iv kd, iv n, iv mo]) hs (by omega) hga)) ?_)
    refine WL.want rfl (WL1.alloc rfl rfl rfl rfl (fun b6 => ?_))
    refine WL.want rfl (WL1.storeAll rfl rfl (.mk rfl rfl) (.mk rfl rfl) rfl (all1 rfl) (by first | rfl | (simp [Blk.len]; done)) (.head) ?_)
    refine WL.nil ?_
    (refine hK _ _ ?_; clear hK)
    (refine WC.seq ?_; intro K hK)
    (refine WC.seq ?_; intro K hK)
    refine WC.region rfl ?_
    refine WL.want rfl (WL1.give rfl (g_fieldAddr (off := 0) rfl (.mk rfl rfl) rfl (fun _ _ => rfl)) ?_)
    refine WL.want rfl (WL1.give rfl (g_load rfl (.mk rfl rfl) rfl (rd_pt (.head _) rfl)) ?_)
    refine WL.want rfl (WL1.give rfl (g_lt rfl (.mk rfl rfl) (.mk rfl rfl) (decide_eq_false (by omega))) ?_)
    refine WL.want rfl (WL1.give rfl (g_move rfl (.mk (v := .bool _) rfl rfl)) ?_)
    refine WL.wantG rfl rfl rfl rfl (WL1.give rfl (g_fieldAddr (off := 0) rfl (.mk rfl rfl) rfl (fun _ _ => rfl)) ?_)
    refine WL.wantG rfl rfl rfl rfl (WL1.give rfl (g_load rfl (.mk rfl rfl) rfl (rd_pt (.head _) rfl)) ?_)
    refine WL.wantG rfl rfl rfl rfl (WL1.give rfl (g_gt rfl (.mk rfl rfl) (.mk rfl rfl) (decide_eq_false (by omega))) ?_)
    refine WL.want rfl (WL1.give rfl (g_pickF rfl (.mk rfl rfl) (.mk (v := .bool _) rfl rfl)) ?_)
    refine WL.nil ?_
    (refine hK _ _ ?_; clear hK)
    refine WC.cond_false (.mk rfl rfl) ?_
    refine WC.skip ?_
    (refine hK _ _ ?_; clear hK)
    (refine WC.seq ?_; intro K hK)
    (refine WC.seq ?_; intro K hK)
    refine WC.held [pt b6 ACT [iv kd, iv n, iv mo]] rfl (by kernel_rfl) ?_
    refine WH.take 0 rfl (by decide +kernel) (by decide +kernel) (by decide +kernel) rfl rfl (Imp.sub (by first | ((repeat (first | exact List.nil_sublist _ | exact List.Sublist.refl _ | apply List.Sublist.cons_cons | apply List.Sublist.cons)); done) | fail)) (g_move rfl (.mk (v := cellPtr _ _) rfl rfl)) ?_
    refine WH.take 1 rfl (by decide +kernel) (by decide +kernel) (by decide +kernel) rfl rfl (Imp.sub (by first | ((repeat (first | exact List.nil_sublist _ | exact List.Sublist.refl _ | apply List.Sublist.cons_cons | apply List.Sublist.cons)); done) | fail)) (g_loadA rfl (.mk rfl rfl) rfl rfl (rdr_pt (.head _) (fun j u h => by simpa using h))) ?_
    refine WH.take 3 rfl (by decide +kernel) (by decide +kernel) (by decide +kernel) rfl rfl (Imp.sub (by first | ((repeat (first | exact List.nil_sublist _ | exact List.Sublist.refl _ | apply List.Sublist.cons_cons | apply List.Sublist.cons)); done) | fail)) (g_move rfl (.mk (v := cellPtr _ _) rfl rfl)) ?_
    refine WH.take 4 rfl (by decide +kernel) (by decide +kernel) (by decide +kernel) rfl rfl (Imp.sub (by first | ((repeat (first | exact List.nil_sublist _ | exact List.Sublist.refl _ | apply List.Sublist.cons_cons | apply List.Sublist.cons)); done) | fail)) (g_loadA rfl (.mk rfl rfl) rfl rfl (rdr_pt (.head _) (fun j u h => by simpa using h))) ?_
    refine WH.one 2 (by decide +kernel) rfl rfl ?_
    (refine WL1.callF rfl rfl rfl (.cons (.mk (v := cellPtr _ _) rfl rfl) (.cons (.mk (v := .agg _) rfl rfl) .nil)) (fun w hw => HD [_] w hw) ?_; rintro _ _ ⟨A1, c1, es1, js1, rfl, hcs, rfl, rfl, rfl⟩)
    refine WL.nil ?_
    refine ⟨(Imp.sub (by first | ((repeat (first | exact List.nil_sublist _ | exact List.Sublist.refl _ | apply List.Sublist.cons_cons | apply List.Sublist.cons)); done) | fail)), ?_⟩
    refine WH.one 5 (by decide +kernel) rfl rfl ?_
    (refine WL1.callF rfl rfl rfl (.cons (.mk (v := cellPtr _ _) rfl rfl) (.cons (.mk (v := .agg _) rfl rfl) .nil)) (fun w hw => HR [_, _, _, _, _] w hw) ?_; rintro _ _ ⟨D1, cD1, rfl, rfl⟩)
    refine WL.nil ?_
    refine ⟨(Imp.sub (by first | ((repeat (first | exact List.nil_sublist _ | exact List.Sublist.refl _ | apply List.Sublist.cons_cons | apply List.Sublist.cons)); done) | fail)), ?_⟩
    refine WH.take 6 rfl (by decide +kernel) (by decide +kernel) (by decide +kernel) rfl rfl (Imp.sub (by first | ((repeat (first | exact List.nil_sublist _ | exact List.Sublist.refl _ | apply List.Sublist.cons_cons | apply List.Sublist.cons)); done) | fail)) (g_ane (by kernel_rfl) rfl (.mk rfl rfl) (.mk rfl rfl) E) ?_
    refine WH.take 7 rfl (by decide +kernel) (by decide +kernel) (by decide +kernel) rfl rfl (Imp.sub (by first | ((repeat (first | exact List.nil_sublist _ | exact List.Sublist.refl _ | apply List.Sublist.cons_cons | apply List.Sublist.cons)); done) | fail)) (g_move rfl (.mk (v := .bool _) rfl rfl)) ?_
    refine WH.takeG 8 rfl (by decide +kernel) (by decide +kernel) (by decide +kernel) ⟨_, _, _, rfl, rfl, rfl, rfl⟩ rfl (Imp.sub (by first | ((repeat (first | exact List.nil_sublist _ | exact List.Sublist.refl _ | apply List.Sublist.cons_cons | apply List.Sublist.cons)); done) | fail)) (g_move rfl (.mk (v := cellPtr _ _) rfl rfl)) ?_
    refine WH.takeG 10 rfl (by decide +kernel) (by decide +kernel) (by decide +kernel) ⟨_, _, _, rfl, rfl, rfl, rfl⟩ rfl (Imp.sub (by first | ((repeat (first | exact List.nil_sublist _ | exact List.Sublist.refl _ | apply List.Sublist.cons_cons | apply List.Sublist.cons)); done) | fail)) (g_move rfl (.mk (v := cellPtr _ _) rfl rfl)) ?_
    refine WH.oneG 9 (by decide +kernel) rfl ⟨_, _, _, rfl, rfl, rfl, rfl⟩ ?_
    (refine WL1.callN rfl rfl rfl (.cons (.mk (v := cellPtr _ _) rfl rfl) .nil) (fun w hw => ids_n hcs.len (hw.perm (List.perm_append_comm_assoc [_, _] (schd S A1 c1 js1.length es1) _))) ?_; rintro _ _ ⟨C, cC, rfl, rfl⟩)
    refine WL.nil ?_
    refine ⟨(Imp.sub (by first | ((repeat (first | exact List.nil_sublist _ | exact List.Sublist.refl _ | apply List.Sublist.cons_cons | apply List.Sublist.cons)); done) | fail)), ?_⟩
    refine WH.oneG 11 (by decide +kernel) rfl ⟨_, _, _, rfl, rfl, rfl, rfl⟩ ?_
    (refine WL1.callN rfl rfl rfl (.cons (.mk (v := cellPtr _ _) rfl rfl) .nil) (fun w hw => rids_k hcs.len (hw.perm (List.perm_append_comm_assoc [_] (rschd b16 D1 cD1 js1.length (rOf js1 es1)) _))) ?_; rintro _ _ ⟨C1, cC1, rfl, rfl⟩)
    refine WL.nil ?_
    refine ⟨(Imp.sub (by first | ((repeat (first | exact List.nil_sublist _ | exact List.Sublist.refl _ | apply List.Sublist.cons_cons | apply List.Sublist.cons)); done) | fail)), ?_⟩
    refine WH.oneG 12 (by decide +kernel) rfl ⟨_, _, _, rfl, rfl, rfl, rfl⟩ ?_
    refine WL1.callP rfl rfl rfl (.cons (.mk (v := .slice _ _ _) rfl rfl) (.cons (.mk (v := .slice _ _ _) rfl rfl) .nil)) (fun w hw => same_t (Sl.of_vec hw (.tail _ (.head _))) (Sl.of_vec hw (.head _)) (idsL_len _)) ?_
    refine WL.nil ?_
    refine ⟨(Imp.sub (by first | ((repeat (first | exact List.nil_sublist _ | exact List.Sublist.refl _ | apply List.Sublist.cons_cons | apply List.Sublist.cons)); done) | fail)), ?_⟩
    refine WH.takeG 13 rfl (by decide +kernel) (by decide +kernel) (by decide +kernel) ⟨_, _, _, rfl, rfl, rfl, rfl⟩ rfl (Imp.sub (by first | ((repeat (first | exact List.nil_sublist _ | exact List.Sublist.refl _ | apply List.Sublist.cons_cons | apply List.Sublist.cons)); done) | fail)) (g_notT rfl (.mk rfl rfl)) ?_
    refine WH.take 14 rfl (by decide +kernel) (by decide +kernel) (by decide +kernel) rfl rfl (Imp.sub (by first | ((repeat (first | exact List.nil_sublist _ | exact List.Sublist.refl _ | apply List.Sublist.cons_cons | apply List.Sublist.cons)); done) | fail)) (g_pickF rfl (.mk rfl rfl) (.mk (v := .bool _) rfl rfl)) ?_
    refine WH.done (by decide +kernel) ?_
    (refine hK _ _ ?_; clear hK)
    refine WC.cond_false (.mk rfl rfl) ?_
    refine WC.skip ?_
    (refine hK _ _ ?_; clear hK)
    (refine WC.seq ?_; intro K hK)
    (refine WC.seq ?_; intro K hK)
    refine WC.region rfl ?_
    refine WL.want rfl (WL1.give rfl (g_move rfl (.mk (v := cellPtr _ _) rfl rfl)) ?_)
    (refine WL.want rfl (WL1.callN rfl rfl rfl (.cons (.mk (v := cellPtr _ _) rfl rfl) .nil) (fun w hw => rids_k hcs.len (hw.perm (List.perm_append_comm_assoc [_, _] (rschd b16 D1 cD1 js1.length (rOf js1 es1)) _))) ?_); rintro _ _ ⟨C2, cC2, rfl, rfl⟩)
    refine WL.want rfl (WL1.give rfl (g_len rfl (.mk rfl rfl) rfl) ?_)
    refine WL.want rfl (WL1.give rfl (g_move rfl (.mk (v := .int _ _) rfl rfl)) ?_)
    refine WL.nil ?_
    (refine hK _ _ ?_; clear hK)
    refine WC.block ?_
    have hl1 := hcs.len
    refine WC.loopI (2305280059260272900) (fun q : Nat => [(49, iv q)]) (fun q => schd S A1 c1 js1.length es1 ++ jbs js1 :: rschd b16 D1 cD1 js1.length (rOf js1 es1) ++ [vec C2 es1.length cC2 3 1 (ivs (idsL es1)), pt b6 ACT [iv kd, iv n, iv mo]]) (fun q => q ≤ es1.length) (fun q => es1.length - q) 0 ⟨rfl, trivial⟩ ?_ (by omega) ?_
    · exact Imp.pick (by repeat (first | exact .head | apply Take.tail)) (Imp.pick (by repeat (first | exact .head | apply Take.tail)) (Imp.pick (by repeat (first | exact .head | apply Take.tail)) (Imp.pick (by repeat (first | exact .head | apply Take.tail)) (Imp.pick (by repeat (first | exact .head | apply Take.tail)) (Imp.pick (by repeat (first | exact .head | apply Take.tail)) (Imp.pick (by repeat (first | exact .head | apply Take.tail)) (Imp.pick (by repeat (first | exact .head | apply Take.tail)) (Imp.nil _))))))))
    intro q U2 hq
    have hcr1 : ∀ x w', H w (schd S A1 c1 js1.length es1 ++ jbs js1 :: rschd b16 D1 cD1 js1.length (rOf js1 es1) ++ [vec C2 es1.length cC2 3 1 (ivs (idsL es1)), pt b6 ACT [iv kd, iv n, iv mo]]) w' → Calls Try.prog 16 #[bp S, iv x] w' fun e w'' => e = .returned (iv (crI es1 x)) ∧ Below w'.heap.size w' w'' := fun x w' hw' =>
      credit_e hl1 hw'
    have hcr2 : ∀ x w', H w (schd S A1 c1 js1.length es1 ++ jbs js1 :: rschd b16 D1 cD1 js1.length (rOf js1 es1) ++ [vec C2 es1.length cC2 3 1 (ivs (idsL es1)), pt b6 ACT [iv kd, iv n, iv mo]]) w' → Calls Try.prog 21 #[bp b16, iv x] w' fun e w'' => e = .returned (iv (crI es1 x)) ∧ Below w'.heap.size w' w'' := fun x w' hw' =>
      rcredit_k hl1 (hw'.perm (List.perm_append_comm_assoc [_, _, _, _] (rschd b16 D1 cD1 js1.length (rOf js1 es1)) _))
    by_cases hql : q < es1.length
    · have hid := ids_get (es := es1) (k := q) hql
      generalize (nth es1 q).id = z at hid
      have h1 := hcr1 z
      have h2 := hcr2 z
      generalize crI es1 z = y at h1 h2
      (refine WC.seq ?_; intro K hK)
      refine WC.region rfl ?_
      refine WL.want rfl (WL1.give rfl (g_lt rfl (.mk rfl rfl) (.mk rfl rfl) (decide_eq_true (by omega))) ?_)
      refine WL.nil ?_
      (refine hK _ _ ?_; clear hK)
      (refine WC.seq ?_; intro K hK)
      refine WC.cond_true (.mk rfl rfl) ?_
      refine WC.skip ?_
      (refine hK _ _ ?_; clear hK)
      (refine WC.seq ?_; intro K hK)
      refine WC.block ?_
      (refine WC.seq ?_; intro K hK)
      refine WC.region rfl ?_
      refine WL.want rfl (WL1.give rfl (g_indexAddr (sz := 1) rfl (.mk rfl rfl) (.mk rfl rfl) rfl rfl rfl (by omega) (fun w hw => vec_some hw (.tail _ (.tail _ (.tail _ (.tail _ (.tail _ (.tail _ (.head _))))))) (by omega))) ?_)
      refine WL.want rfl (WL1.give rfl (g_load rfl (.mk rfl rfl) rfl (rd_vec (by first | ((repeat (first | exact .head _ | apply List.Mem.tail)); done) | fail) hid)) ?_)
      refine WL.want rfl (WL1.give rfl (g_assign rfl (.mk (v := .int _ _) rfl rfl)) ?_)
      refine WL.nil ?_
      (refine hK _ _ ?_; clear hK)
      (refine WC.seq ?_; intro K hK)
      refine WC.region rfl ?_
      refine WL.want rfl (WL1.give rfl (g_move rfl (.mk (v := cellPtr _ _) rfl rfl)) ?_)
      refine WL.want rfl (WL1.give rfl (g_move rfl (.mk (v := .int _ _) rfl rfl)) ?_)
      refine WL.want rfl (WL1.callP rfl rfl rfl (.cons (.mk (v := cellPtr _ _) rfl rfl) (.cons (.mk (v := .int _ _) rfl rfl) .nil)) (fun w hw => h1 w hw) ?_)
      refine WL.want rfl (WL1.give rfl (g_move rfl (.mk (v := cellPtr _ _) rfl rfl)) ?_)
      refine WL.want rfl (WL1.give rfl (g_move rfl (.mk (v := .int _ _) rfl rfl)) ?_)
      refine WL.want rfl (WL1.callP rfl rfl rfl (.cons (.mk (v := cellPtr _ _) rfl rfl) (.cons (.mk (v := .int _ _) rfl rfl) .nil)) (fun w hw => h2 w hw) ?_)
      refine WL.want rfl (WL1.give rfl (g_ne rfl (.mk rfl rfl) (.mk rfl rfl) (decide_eq_false (by omega))) ?_)
      refine WL.nil ?_
      (refine hK _ _ ?_; clear hK)
      refine WC.cond_false (.mk rfl rfl) ?_
      refine WC.skip ?_
      (refine hK _ _ ?_; clear hK)
      refine WC.region rfl ?_
      refine WL.want rfl (WL1.give rfl (g_add rfl (.mk rfl rfl) (.mk rfl rfl) (IntWalk.i64_in _ (by omega))) ?_)
      refine WL.want rfl (WL1.give rfl (g_move rfl (.mk (v := .int _ _) rfl rfl)) ?_)
      refine WL.nil ?_
      exact ⟨q + 1, (by repeat (first | with_reducible exact Out.refl _ _ | refine Out.set rfl ?_ | refine Out.put rfl ?_ | refine Out.sets rfl ?_ | refine Out.hav rfl ?_ | exact Out.refl _ _)), ⟨rfl, trivial⟩, Imp.refl _, by omega, by omega⟩
    · have h1 := hcr1 n
      have h2 := hcr2 n
      generalize crI es1 n = y at h1 h2
      (refine WC.seq ?_; intro K hK)
      refine WC.region rfl ?_
      refine WL.want rfl (WL1.give rfl (g_lt rfl (.mk rfl rfl) (.mk rfl rfl) (decide_eq_false (by omega))) ?_)
      refine WL.nil ?_
      (refine hK _ _ ?_; clear hK)
      (refine WC.seq ?_; intro K hK)
      refine WC.cond_false (.mk rfl rfl) ?_
      refine WC.exit ?_
      (clear hK; refine hK _ _ ?_; clear hK)
      (refine WC.seq ?_; intro K hK)
      refine WC.quiet rfl (by kernel_rfl) (by decide +kernel) ?_
      refine WQ.want rfl (WQ1.give rfl (g_move rfl (.mk (v := cellPtr _ _) rfl rfl)) ?_)
      refine WQ.want rfl (WQ1.give rfl (g_fieldAddr (off := 1) rfl (.mk rfl rfl) rfl (fun _ _ => rfl)) ?_)
      refine WQ.want rfl (WQ1.give rfl (g_load rfl (.mk rfl rfl) rfl (rd_pt (.tail _ (.tail _ (.tail _ (.tail _ (.tail _ (.tail _ (.tail _ (.head _)))))))) rfl)) ?_)
      refine WQ.want rfl (WQ1.callP rfl rfl rfl (.cons (.mk (v := cellPtr _ _) rfl rfl) (.cons (.mk (v := .int _ _) rfl rfl) .nil)) (fun w hw => h1 w hw) ?_)
      refine WQ.want rfl (WQ1.give rfl (g_move rfl (.mk (v := cellPtr _ _) rfl rfl)) ?_)
      refine WQ.want rfl (WQ1.give rfl (g_fieldAddr (off := 1) rfl (.mk rfl rfl) rfl (fun _ _ => rfl)) ?_)
      refine WQ.want rfl (WQ1.give rfl (g_load rfl (.mk rfl rfl) rfl (rd_pt (.tail _ (.tail _ (.tail _ (.tail _ (.tail _ (.tail _ (.tail _ (.head _)))))))) rfl)) ?_)
      refine WQ.want rfl (WQ1.callP rfl rfl rfl (.cons (.mk (v := cellPtr _ _) rfl rfl) (.cons (.mk (v := .int _ _) rfl rfl) .nil)) (fun w hw => h2 w hw) ?_)
      refine WQ.want rfl (WQ1.give rfl (g_ne rfl (.mk rfl rfl) (.mk rfl rfl) (decide_eq_false (by omega))) ?_)
      refine WQ.nil ?_
      (refine hK _ _ ?_; clear hK)
      refine WC.cond_false (.mk rfl rfl) ?_
      refine WC.skip ?_
      (refine hK _ _ ?_; clear hK)
      refine WC.region rfl ?_
      refine WL.want rfl (WL1.give rfl (g_add rfl (.mk rfl rfl) (.mk rfl rfl) (IntWalk.i64_in _ (by omega))) ?_)
      refine WL.want rfl (WL1.give rfl (g_move rfl (.mk (v := .int _ _) rfl rfl)) ?_)
      refine WL.nil ?_
      exact ⟨i + 1, (A1, c1), (D1, cD1), es1, js1, (by repeat (first | with_reducible exact Out.refl _ _ | refine Out.set rfl ?_ | refine Out.put rfl ?_ | refine Out.sets rfl ?_ | refine Out.hav rfl ?_ | exact Out.refl _ _)), ⟨rfl, trivial⟩, Imp.sub (.cons_cons _ (.cons_cons _ (.cons_cons _ (.cons_cons _ (.cons_cons _ (.cons_cons _ (List.nil_sublist _))))))), ⟨by omega, hcs⟩, by omega⟩
  · obtain rfl : i = ps.length := by omega
    (refine WC.seq ?_; intro K hK)
    refine WC.region rfl ?_
    refine WL.want rfl (WL1.give rfl (g_lt rfl (.mk rfl rfl) (.mk rfl rfl) (decide_eq_false (by omega))) ?_)
    refine WL.nil ?_
    (refine hK _ _ ?_; clear hK)
    (refine WC.seq ?_; intro K hK)
    refine WC.cond_false (.mk rfl rfl) ?_
    refine WC.exit ?_
    (clear hK; refine hK _ _ ?_; clear hK)
    (refine WC.seq ?_; intro K hK)
    refine WC.region rfl ?_
    refine WL.want rfl (WL1.give rfl (g_assign rfl (.mk (v := .bool _) rfl rfl)) ?_)
    refine WL.nil ?_
    (refine hK _ _ ?_; clear hK)
    refine WC.ret ?_
    exact fun w' hw' => ⟨rfl, hw'.1⟩

set_option maxRecDepth 100000 in
theorem lifted (os : Os) (started : os.Started) (H : Type) (enc : TypeId × Value → H) :
    ReturnsInHanded {} Try.checked os 7 .any (Rows.stepsCallsSpec.pre6 enc Try.prog Try.f7 Rows.stepsCallsRow.domain false) (Rows.stepsCallsSpec.post enc Try.prog Try.f7 false true false false) := by
  refine returnsInHanded_of_change (C := Try.checked) own started (by kernel_rfl) Try.func7
    (ChangeSpec.witness6 (enc := enc) (C := Try.checked) false ⟨#[], #[.slice none 0 0], []⟩ 8 (by kernel_rfl) (by kernel_rfl) (by kernel_rfl) (by kernel_rfl)) ?_
  intro W base args ds gs before hval0 hW _ _
  have hval : ∀ (j : Nat) t v, Try.f7.params[j]? = some t → args[j]? = some v → Value.okWide Try.prog W .any base t v := hval0
  have hW' := hW
  obtain ⟨p, q, hA0, hV, rfl, hfz, hnd⟩ := hW
  have hA : DataW.TrodAll enc Try.prog W 0 (fun _ => true) true Try.f7.params.toList args.toList ds p := hA0
  rw [Try.params7] at hA hval
  obtain ⟨v0, vs0, d0, ds0, p0, q0, hargs, rfl, rfl, h0, r0⟩ := trodAll_cons hA
  obtain ⟨rfl, rfl, rfl⟩ := trodAll_nil r0
  obtain rfl : args = #[v0] := by cases args; simp_all
  obtain ⟨ps, pssl, psr⟩ := open_acts (hval 0 43 v0 rfl rfl) h0
  refine (walk (w := W) v0 ps pssl psr).mono fun e W' ⟨he, hb⟩ => ?_
  subst he
  exact ⟨_, rfl, law_post laidOut (by kernel_rfl) rfl rfl Try.underlying4 (fun ds h => by match ds, h with | [_], _ => rfl) hW' hb⟩

theorem proved : Rows.StepsCallsSaid :=
  OpenClaim.holds_of_wide 7 Try.f7 rfl rfl rfl rfl rfl rfl rfl ⟨rfl, rfl, rfl, rfl, rfl⟩ rfl rfl rfl rfl rfl (by kernel_rfl) Try.func7 (by kernel_rfl)
    (of_decide_eq_true (by kernel_rfl)) (by unfold Func.isWrapper; first | (rw [if_pos (by decide +kernel)]; kernel_rfl) | (rw [if_neg (by decide +kernel)]; exact ⟨rfl, rfl⟩))
    (fun os started H enc _ => lifted os started H enc)
end Go.Proofs.Ytbofagfilohhfaa.LStepsCalls
