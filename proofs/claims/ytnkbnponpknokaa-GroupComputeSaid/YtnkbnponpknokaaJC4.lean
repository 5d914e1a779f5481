/- Texts joined: Mat5, Mat6, MatS, Code, Dec1, Gen, Gen2, Dec2, Dec3, Dec4, Good, Grp19, Dec6, Dec7, Dec8, Loc, Gg. The parts say what each of them proves. No condition. -/
import Derived.Test.YtnkbnponpknokaaJC3
namespace Go.Proofs.Ytnkbnponpknokaa
set_option maxRecDepth 20000
open Go.RowKit
attribute [local irreducible] Calls
set_option maxHeartbeats 1000000 in
theorem cloneb_n (v : Value) (l : List G) (w : World) (hv : Sl w 1 v l.length (bvs l)) (h1 : 1 ≤ l.length) (h2 : l.length ≤ 100000) : Calls Try.prog 105 #[v] w fun e w' => ∃ v' M, e = .returned v' ∧ H w M w' ∧
    ∃ A c, v' = .slice A l.length c ∧ M = [vec A l.length c 5 1 (bvs l)] := by
  obtain ⟨A, c, rfl, hc, hm, hs⟩ := hv.open_
  have hA := sl_some hs (by omega)
  have hone := bvs_one l
  refine calls_wc (args := [.slice A l.length c]) [2] [] Try.func105 rfl Try.ntmps105 rfl rfl rfl rfl (H.refl w) ?_
  refine WC.seq fun K hK => ?_
  refine WC.region rfl ?_
  refine wG rfl rfl (g_assign rfl (.mk (v := .slice _ _ _) rfl rfl)) ?_
  refine WL.nil ?_
  (refine hK _ _ ?_; clear hK)
  refine WC.seq fun K hK => ?_
  refine WC.seq fun K hK => ?_
  refine WC.region rfl ?_
  refine wG rfl rfl (g_move rfl (.mk (v := .slice _ _ _) rfl rfl)) ?_
  refine wG rfl rfl (g_eqSNS rfl rfl (.mk rfl rfl) (.mk rfl rfl) ((fun _ _ => sl_some hs (by omega)))) ?_
  refine WL.nil ?_
  (refine hK _ _ ?_; clear hK)
  refine WC.cond_false (.mk rfl rfl) ?_
  refine WC.skip ?_
  (refine hK _ _ ?_; clear hK)
  refine WC.seq fun K hK => ?_
  refine WC.region rfl ?_
  refine WL.want rfl (WL1.lit (cs := []) elB rfl rfl rfl .nil rfl (by first | (simp [Value.cells]; done) | fail) rfl rfl (fun b5 => ?_))
  refine wG rfl rfl (g_move rfl (.mk (v := .slice _ _ _) rfl rfl)) ?_
  refine WL.want rfl (WL1.append elB rfl rfl (.mk rfl rfl) (.mk rfl rfl) (.head) (fun w hw => Sl.below hs hw.1) hone (by unfold maxLen; omega) (by omega) (fun A7 c7 => ?_))
  refine wG rfl rfl (g_assign rfl (.mk (v := .slice _ _ _) rfl rfl)) ?_
  refine WL.nil ?_
  (refine hK _ _ ?_; clear hK)
  refine WC.ret ?_
  exact fun w' hw' => ⟨_, _, rfl, hw', A7, c7, by show Value.slice A7 (0 + l.length) c7 = _; rw [Nat.zero_add], by rw [Nat.zero_add, List.nil_append]⟩
abbrev colF (b : Nat) : Value := .func (.func 102) #[] #[cellPtr (some ⟨b, 0, none⟩) 0]
theorem decG {x : G} : decide (((x.val : Nat) : Int) ≠ 0) = nz x := by
  unfold nz
  refine decide_eq_decide.2 ⟨fun h e => h (by rw [e]; rfl), fun h e => h (G.eq_of (by show x.val = 0; omega))⟩
set_option maxHeartbeats 1000000 in
theorem colF_e (v : Value) (l : List G) (b c : Nat) (w : World) (hv : Sl w 1 v l.length (bvs l)) (hc : w.cell? ⟨b, 0, none⟩ = some (iv c)) (h : c < l.length) : Calls Try.prog 102 #[v, cellPtr (some ⟨b, 0, none⟩) 0] w fun e w' => e = .returned (.bool (nz (nth l c))) ∧ Below w.heap.size w w' := by
  obtain ⟨A, cc, rfl, hcc, hm, hs⟩ := hv.open_
  have hd := decG (x := nth l c)
  refine calls_wc (args := [.slice A l.length cc, cellPtr (some ⟨b, 0, none⟩) 0]) [3] [] Try.func102 rfl Try.ntmps102 rfl rfl rfl rfl (H.refl w) ?_
  refine WC.seq fun K hK => ?_
  refine WC.region rfl ?_
  refine wG rfl rfl (g_assign rfl (.mk (v := .bool _) rfl rfl)) ?_
  refine WL.nil ?_
  (refine hK _ _ ?_; clear hK)
  refine WC.seq fun K hK => ?_
  refine WC.region rfl ?_
  refine wG rfl rfl (g_move rfl (.mk (v := .slice _ _ _) rfl rfl)) ?_
  refine wG rfl rfl (g_load rfl (.mk rfl rfl) rfl (rd_wb hc)) ?_
  refine wG rfl rfl (g_indexAddr (sz := 1) rfl (.mk rfl rfl) (.mk rfl rfl) rfl rfl rfl (by omega) (fun _ _ => sl_some hs (by omega))) ?_
  refine wG rfl rfl (g_load rfl (.mk rfl rfl) rfl (rd_sl hs (get1 (by omega)))) ?_
  refine wG rfl rfl (g_ne rfl (.mk rfl rfl) (.mk rfl rfl) hd) ?_
  refine wG rfl rfl (g_assign rfl (.mk (v := .bool _) rfl rfl)) ?_
  refine WL.nil ?_
  (refine hK _ _ ?_; clear hK)
  refine WC.ret ?_
  exact fun w' hw' => ⟨rfl, hw'.1⟩
set_option maxHeartbeats 1000000 in
theorem index_rows (v : Value) (rs : List Row) (b c : Nat) (w : World) (hv : MatAt w v rs) (hc : w.cell? ⟨b, 0, none⟩ = some (iv c)) (hl : ∀ k, k < rs.length → c < (nth rs k).l.length) :
    Calls Try.prog 101 #[v, colF b] w fun e w' => e = .returned (iv (fz (fnd (fun k => nz (nth (nth rs k).l c)) rs.length))) ∧ Below w.heap.size w w' := by
  obtain ⟨A, cc, rfl, hcc, hm, hs⟩ := hv.1.open_
  unfold maxLen at hm
  refine calls_wc (args := [.slice A rs.length cc, colF b]) [4] [] Try.func101 rfl Try.ntmps101 rfl rfl rfl rfl (H.refl w) ?_
  refine WC.seq fun K hK => ?_
  refine WC.region rfl ?_
  refine wG rfl rfl (g_assign rfl (.mk (v := .int _ _) rfl rfl)) ?_
  refine WL.nil ?_
  (refine hK _ _ ?_; clear hK)
  refine WC.seq fun K hK => ?_
  refine WC.seq fun K hK => ?_
  refine WC.region rfl ?_
  refine wG rfl rfl (g_move rfl (.mk (v := .slice _ _ _) rfl rfl)) ?_
  refine wG rfl rfl (g_len rfl (.mk rfl rfl) rfl) ?_
  refine wG rfl rfl (g_move rfl (.mk (v := .int _ _) rfl rfl)) ?_
  refine WL.nil ?_
  (refine hK _ _ ?_; clear hK)
  refine WC.block ?_
  refine WC.loop (524080) (fun k : Nat => [(8, iv k)]) (fun _ => []) (fun k => k ≤ rs.length ∧ ∀ j, j < k → nz (nth (nth rs j).l c) = false) (fun k => rs.length - k) 0 ⟨rfl, trivial⟩ (List.nil_sublist _) ⟨by omega, fun j hj => absurd hj (by omega)⟩ ?_
  rintro k U ⟨hk, hq⟩
  by_cases hlt : k < rs.length
  · have hcl := fun w' hb => colF_e (nth rs k).v (nth rs k).l b c w' ((hv.row hlt).below (w' := w') hb) (kept_cell hb hc) (hl k hlt)
    cases hz : nz (nth (nth rs k).l c) with
    | false =>
      rw [hz] at hcl
      refine WC.seq fun K hK => ?_
      refine WC.region rfl ?_
      refine wG rfl rfl (g_lt rfl (.mk rfl rfl) (.mk rfl rfl) (decide_eq_true (by omega))) ?_
      refine WL.nil ?_
      (refine hK _ _ ?_; clear hK)
      refine WC.seq fun K hK => ?_
      refine WC.cond_true (.mk rfl rfl) ?_
      refine WC.skip ?_
      (refine hK _ _ ?_; clear hK)
      refine WC.seq fun K hK => ?_
      refine WC.block ?_
      refine WC.seq fun K hK => ?_
      refine WC.region rfl ?_
      refine wG rfl rfl (g_move rfl (.mk (v := .int _ _) rfl rfl)) ?_
      refine wG rfl rfl (g_assign rfl (.mk (v := .int _ _) rfl rfl)) ?_
      refine WL.nil ?_
      (refine hK _ _ ?_; clear hK)
      refine WC.seq fun K hK => ?_
      refine WC.region rfl ?_
      refine wG rfl rfl (g_move rfl (.mk (v := .func _ _ _) rfl rfl)) ?_
      refine wG rfl rfl (g_move rfl (.mk (v := .slice _ _ _) rfl rfl)) ?_
      refine wG rfl rfl (g_move rfl (.mk (v := .int _ _) rfl rfl)) ?_
      refine wG rfl rfl (g_indexAddr (sz := 1) rfl (.mk rfl rfl) (.mk rfl rfl) rfl rfl rfl (by omega) (fun _ _ => sl_some hs (by omega))) ?_
      refine wG rfl rfl (g_load rfl (.mk rfl rfl) rfl (rd_sl hs (get1 (by omega)))) ?_
      refine WL.want rfl (WL1.callVP rfl rfl (.mk rfl rfl) (by first | assumption | rfl) (.cons (.mk (v := .slice _ _ _) rfl rfl) .nil) (fun w hw => hcl w hw.1) ?_)
      refine WL.nil ?_
      (refine hK _ _ ?_; clear hK)
      refine WC.cond_false (.mk rfl rfl) ?_
      refine WC.skip ?_
      (refine hK _ _ ?_; clear hK)
      refine WC.region rfl ?_
      refine wG rfl rfl (g_add rfl (.mk rfl rfl) (.mk rfl rfl) (IntWalk.i64_in _ (by omega))) ?_
      refine wG rfl rfl (g_move rfl (.mk (v := .int _ _) rfl rfl)) ?_
      refine WL.nil ?_
      refine ⟨k + 1, (by repeat (first | with_reducible exact Out.refl _ _ | refine Out.set rfl ?_ | refine Out.put rfl ?_ | refine Out.sets rfl ?_ | refine Out.hav rfl ?_ | exact Out.refl _ _)), ⟨rfl, trivial⟩, .refl _, ⟨by omega, fun j hj => ?_⟩, by omega⟩
      by_cases e : j = k
      · rw [e]; exact hz
      · exact hq j (by omega)
    | true =>
      rw [hz] at hcl
      refine WC.seq fun K hK => ?_
      refine WC.region rfl ?_
      refine wG rfl rfl (g_lt rfl (.mk rfl rfl) (.mk rfl rfl) (decide_eq_true (by omega))) ?_
      refine WL.nil ?_
      (refine hK _ _ ?_; clear hK)
      refine WC.seq fun K hK => ?_
      refine WC.cond_true (.mk rfl rfl) ?_
      refine WC.skip ?_
      (refine hK _ _ ?_; clear hK)
      refine WC.seq fun K hK => ?_
      refine WC.block ?_
      refine WC.seq fun K hK => ?_
      refine WC.region rfl ?_
      refine wG rfl rfl (g_move rfl (.mk (v := .int _ _) rfl rfl)) ?_
      refine wG rfl rfl (g_assign rfl (.mk (v := .int _ _) rfl rfl)) ?_
      refine WL.nil ?_
      (refine hK _ _ ?_; clear hK)
      refine WC.seq fun K hK => ?_
      refine WC.region rfl ?_
      refine wG rfl rfl (g_move rfl (.mk (v := .func _ _ _) rfl rfl)) ?_
      refine wG rfl rfl (g_move rfl (.mk (v := .slice _ _ _) rfl rfl)) ?_
      refine wG rfl rfl (g_move rfl (.mk (v := .int _ _) rfl rfl)) ?_
      refine wG rfl rfl (g_indexAddr (sz := 1) rfl (.mk rfl rfl) (.mk rfl rfl) rfl rfl rfl (by omega) (fun _ _ => sl_some hs (by omega))) ?_
      refine wG rfl rfl (g_load rfl (.mk rfl rfl) rfl (rd_sl hs (get1 (by omega)))) ?_
      refine WL.want rfl (WL1.callVP rfl rfl (.mk rfl rfl) (by first | assumption | rfl) (.cons (.mk (v := .slice _ _ _) rfl rfl) .nil) (fun w hw => hcl w hw.1) ?_)
      refine WL.nil ?_
      (refine hK _ _ ?_; clear hK)
      refine WC.cond_true (.mk rfl rfl) ?_
      refine WC.seq fun K hK => ?_
      refine WC.region rfl ?_
      refine wG rfl rfl (g_move rfl (.mk (v := .int _ _) rfl rfl)) ?_
      refine wG rfl rfl (g_assign rfl (.mk (v := .int _ _) rfl rfl)) ?_
      refine WL.nil ?_
      (refine hK _ _ ?_; clear hK)
      refine WC.ret ?_
      exact fun w' hw' => ⟨by rw [fnd_eq hlt hz hq]; rfl, hw'.1⟩
  · obtain rfl : k = rs.length := by omega
    refine WC.seq fun K hK => ?_
    refine WC.region rfl ?_
    refine wG rfl rfl (g_lt rfl (.mk rfl rfl) (.mk rfl rfl) (decide_eq_false (by omega))) ?_
    refine WL.nil ?_
    (refine hK _ _ ?_; clear hK)
    refine WC.seq fun K hK => ?_
    refine WC.cond_false (.mk rfl rfl) ?_
    refine WC.exit ?_
    (clear hK; refine hK _ _ ?_; clear hK)
    refine WC.seq fun K hK => ?_
    refine WC.region rfl ?_
    refine wG rfl rfl (g_assign rfl (.mk (v := .int _ _) rfl rfl)) ?_
    refine WL.nil ?_
    (refine hK _ _ ?_; clear hK)
    refine WC.ret ?_
    exact fun w' hw' => ⟨by rw [fnd_all hq]; rfl, hw'.1⟩
end Go.Proofs.Ytnkbnponpknokaa
namespace Go.Proofs.Ytnkbnponpknokaa
set_option maxRecDepth 20000
open Go.RowKit
attribute [local irreducible] Calls
theorem MatAt.drop {w : World} {A : Option Addr} {n c l : Nat} {rs : List Row} (h : MatAt w (.slice A n c) rs) (hn : rs.length = n) (hl : l ≤ n) : MatAt w (.slice (subA A c l 1) (n - l) (c - l)) (rs.drop l) := by
  subst hn
  have := h.1.sub hl (Nat.le_refl _)
  rw [Nat.mul_one, Nat.mul_one, ← List.map_drop, List.take_of_length_le (by simp)] at this
  exact ⟨by rw [List.length_drop]; exact this, fun r hr => h.2 r (List.mem_of_mem_drop hr)⟩
theorem MatAt.of_rowsN {w0 w : World} {L : List Asrt} {A : Option Addr} {n c : Nat} {rs : List Row} (hw : H w0 L w) (h0 : vec A n c 111 1 (rs.map Row.v) ∈ L) (h : rowsA rs ∈ L) (hn : rs.length = n) : MatAt w (.slice A n c) rs := by
  subst hn; exact MatAt.of_rowsA hw h0 h
theorem MatAt.tail {w0 w : World} {L : List Asrt} {A : Option Addr} {n c l : Nat} {rs : List Row} (hw : H w0 L w) (h0 : vec A n c 111 1 (rs.map Row.v) ∈ L) (h : rowsA rs ∈ L) (hn : rs.length = n) (hl : l ≤ n) : MatAt w (.slice (subA A c l 1) (n - l) (c - l)) (rs.drop l) :=
  (MatAt.of_rowsN hw h0 h hn).drop hn hl
theorem nth_drop {α : Type} [Inhabited α] (l : List α) (c k : Nat) : nth (l.drop c) k = nth l (c + k) := by unfold nth; simp [List.getD_eq_getElem?_getD, List.getElem?_drop]
theorem pvt_rows {rs : List Row} {a : List (List G)} {n c : Nat} (h : els rs = a) (hl : rs.length = n) (hc : c < n) : fnd (fun k => nz (nth (nth (rs.drop c) k).l c)) (rs.drop c).length = pvt a n c := by
  unfold pvt
  rw [List.length_drop, hl]
  have key : ∀ m, m ≤ n - c → fnd (fun k => nz (nth (nth (rs.drop c) k).l c)) m = fnd (fun k => nz (el a (c + k) c)) m := fun m => by
    induction m with
    | zero => intro _; rfl
    | succ m ih =>
      intro hm
      unfold fnd
      rw [ih (by omega)]
      have e : nth (nth (rs.drop c) m).l c = el a (c + m) c := by rw [nth_drop, el_row (by omega), h]
      rw [e]
  exact key _ (Nat.le_refl _)
theorem rowsv_copy {rs : List Row} {k : Nat} {l : List G} (hk : k < rs.length) (hl : l.length ≤ (nth rs k).l.length) : (rs.set k ((nth rs k).copy l)).map Row.v = rs.map Row.v := by
  rw [List.map_set, Row.copy_v _ hl]
  refine List.ext_getElem? fun j => ?_
  by_cases e : j = k
  · subst e; rw [List.getElem?_set_self (by simpa using hk), List.getElem?_map, nth_get hk]; rfl
  · rw [List.getElem?_set_ne (fun h => e h.symm)]
theorem Sl.drop_row {w : World} {A : Option Addr} {m c n : Nat} {l : List G} (h : Sl w 1 (.slice A m c) m (bvs l)) (hl : l.length = m) (hn : n ≤ m) : Sl w 1 (.slice (subA A c n 1) (m - n) (c - n)) (l.drop n).length (bvs (l.drop n)) := by
  have := h.sub hn (Nat.le_refl _)
  have e : ((bvs l).drop (n * 1)).take ((m - n) * 1) = bvs (l.drop n) := by
    unfold bvs; rw [Nat.mul_one, Nat.mul_one, ← List.map_drop, List.take_of_length_le (by simp; omega)]
  rw [e] at this
  rw [List.length_drop, hl]; exact this
theorem take_succ_nth {α : Type} [Inhabited α] {l : List α} {k : Nat} (h : k < l.length) : l.take (k + 1) = l.take k ++ [nth l k] := by rw [List.take_add_one, nth_get h]; rfl
theorem perm3 {a b c : Asrt} : [a, b, c].Perm [b, c, a] := (List.Perm.swap _ _ _).trans ((List.Perm.swap _ _ _).cons _)
def swpR (rs : List Row) (c q : Nat) : List Row := (rs.set c (nth rs q)).set q (nth rs c)
theorem swpR_perm {rs : List Row} {c q : Nat} (hc : c < rs.length) (hq : q < rs.length) : rs.Perm (swpR rs c q) := by
  unfold swpR
  rw [nth_eq' hc, nth_eq' hq]
  exact (List.set_set_perm hc hq).symm
theorem swpR_v {rs : List Row} {c q : Nat} : (swpR rs c q).map Row.v = ((rs.map Row.v).set c (nth rs q).v).set q (nth rs c).v := by
  unfold swpR; rw [List.map_set, List.map_set]
theorem swpR_els {rs : List Row} {c q : Nat} (hc : c < rs.length) (hq : q < rs.length) : els (swpR rs c q) = swp (els rs) c q := by
  unfold swpR swp
  rw [els_set, els_set, els_at hc, els_at hq]
theorem swpR_len {rs : List Row} {c q : Nat} : (swpR rs c q).length = rs.length := by simp [swpR]
theorem Imp.rowsP {rs rs' : List Row} {L L' : List Asrt} (h : rs.Perm rs') (hs : Swap (rowsA rs) (rowsA rs') L L') : Imp L L' := by
  obtain ⟨L1, p1, p2⟩ := hs.perms
  exact (Imp.perm p1).trans ((Imp.rows_perm h L1).trans (Imp.perm p2.symm))
theorem augF {m : List (List G)} {n i : Nat} (hi : i < n) (hl : (nth m i).length = n) : (nth m i ++ (zrow (2 * n)).drop (nth m i).length).set (n + i) 1 = nth m i ++ (List.range n).map fun j => dlt i j := by
  have e1 : (zrow (2 * n)).drop (nth m i).length = zrow n := by unfold zrow; rw [List.drop_replicate, hl]; congr 1; omega
  rw [e1, List.set_append_right _ _ (by omega), hl, Nat.add_sub_cancel_left, unit_row hi]
theorem inv_c (a : G) (h : a ≠ 0) (w : World) : Calls Try.prog 103 #[bv a] w fun e w' => e = .returned (.tuple #[bv (ginv a), iv 0]) ∧ w' = w := (inv_any a h w).mono fun _ _ ⟨h1, h2⟩ => ⟨h1, h2.symm⟩
set_option maxHeartbeats 4000000 in
theorem inverse_c (va : Value) (ra : List Row) (w : World) (ha : MatAt w va ra) (hg : Good (els ra)) (hsq : (nth ra 0).l.length = ra.length) :
    Calls Try.prog 93 #[va] w fun e w' => ∃ v' M, e = .returned v' ∧ H w M w' ∧ ((invM (els ra) = none ∧ v' = .tuple #[.slice none 0 0, iv 3]) ∨ ∃ A cc rs, v' = .tuple #[.slice A rs.length cc, iv 0] ∧ M = matM A cc rs ∧ invM (els ra) = some (els rs) ∧ rs.length = ra.length) := by
  obtain ⟨A, c, rfl, hcc, hm, hs⟩ := ha.1.open_
  have hval := fun w' hb => valid_e _ ra w' (ha.below (w' := w') hb)
  rw [goodB_iff.2 hg] at hval
  obtain ⟨g1, g2, g3, g4⟩ := hg.parts
  obtain ⟨n, hn⟩ : ∃ n, n = ra.length := ⟨_, rfl⟩
  obtain ⟨m, hmm⟩ : ∃ m, m = els ra := ⟨_, rfl⟩
  have hrow : ∀ i, i < n → (nth ra i).l.length = n := fun i hi => by rw [hg.row (by omega), hsq, hn]
  have hshp : Shp m n n := ⟨by rw [hmm, els_len, hn], fun i hi => by rw [hmm, els_at (by omega), hrow i hi]⟩
  have hinv : invM (els ra) = (gjr n n (aug m n)).map fun a => a.map (List.drop n) := by unfold invM; rw [← hmm, hshp.1]
  have hmul : IntKind.i64.wrap (2 * (ra.length : Int)) = ((2 * ra.length : Nat) : Int) := by rw [IntWalk.i64_in _ (by omega)]; omega
  refine calls_wc (args := [.slice A ra.length c]) [2, 3] [] Try.func93 rfl Try.ntmps93 rfl rfl rfl rfl (H.refl w) ?_
  refine WC.seq fun K hK => ?_
  refine WC.region rfl ?_
  refine wG rfl rfl (g_assign rfl (.mk (v := .slice _ _ _) rfl rfl)) ?_
  refine wG rfl rfl (g_assign rfl (.mk (v := .int _ _) rfl rfl)) ?_
  refine WL.nil ?_
  (refine hK _ _ ?_; clear hK)
  refine WC.seq fun K hK => ?_
  refine WC.seq fun K hK => ?_
  refine WC.region rfl ?_
  refine wG rfl rfl (g_move rfl (.mk (v := .slice _ _ _) rfl rfl)) ?_
  refine WL.want rfl (WL1.callP rfl rfl rfl (.cons (.mk (v := .slice _ _ _) rfl rfl) .nil) (fun w hw => hval w hw.1) ?_)
  refine wG rfl rfl (g_notT rfl (.mk rfl rfl)) ?_
  refine wG rfl rfl (g_move rfl (.mk (v := .bool _) rfl rfl)) ?_
  refine WL.wantG rfl rfl rfl rfl (WL1.give rfl (g_move rfl (.mk (v := .slice _ _ _) rfl rfl)) ?_)
  refine WL.wantG rfl rfl rfl rfl (WL1.give rfl (g_len rfl (.mk rfl rfl) rfl) ?_)
  refine WL.wantG rfl rfl rfl rfl (WL1.give rfl (g_move rfl (.mk (v := .slice _ _ _) rfl rfl)) ?_)
  refine WL.wantG rfl rfl rfl rfl (WL1.give rfl (g_indexAddr (sz := 1) rfl (.mk rfl rfl) (.mk rfl rfl) rfl rfl (show _ = ((0 : Nat) : Int) from rfl) (by omega) (fun _ _ => sl_some hs (by omega))) ?_)
  refine WL.wantG rfl rfl rfl rfl (WL1.give rfl (g_load rfl (.mk rfl rfl) rfl (rd_sl hs (get1 (by omega)))) ?_)
  refine WL.wantG rfl rfl rfl rfl (WL1.give rfl (g_len rfl (.mk rfl rfl) rfl) ?_)
  refine WL.wantG rfl rfl rfl rfl (WL1.give rfl (g_ne rfl (.mk rfl rfl) (.mk rfl rfl) (decide_eq_false (by omega))) ?_)
  refine wG rfl rfl (g_pickF rfl (.mk rfl rfl) (.mk (v := .bool _) rfl rfl)) ?_
  refine WL.nil ?_
  (refine hK _ _ ?_; clear hK)
  refine WC.cond_false (.mk rfl rfl) ?_
  refine WC.skip ?_
  (refine hK _ _ ?_; clear hK)
  refine WC.seq fun K hK => ?_
  refine WC.region rfl ?_
  refine wG rfl rfl (g_move rfl (.mk (v := .slice _ _ _) rfl rfl)) ?_
  refine wG rfl rfl (g_len rfl (.mk rfl rfl) rfl) ?_
  refine wG rfl rfl (g_assign rfl (.mk (v := .int _ _) rfl rfl)) ?_
  refine WL.nil ?_
  (refine hK _ _ ?_; clear hK)
  refine WC.seq fun K hK => ?_
  refine WC.region rfl ?_
  refine wG rfl rfl (g_move rfl (.mk (v := .int _ _) rfl rfl)) ?_
  refine wG rfl rfl (g_move rfl (.mk (v := .int _ _) rfl rfl)) ?_
  refine wG rfl rfl (g_mul rfl (.mk rfl rfl) (.mk rfl rfl) hmul) ?_
  (refine WL.want rfl (WL1.callN rfl rfl rfl (.cons (.mk (v := .int _ _) rfl rfl) (.cons (.mk (v := .int _ _) rfl rfl) .nil)) (fun w hw => blank_n ra.length (2 * ra.length) w (by omega) (by omega)) ?_); rintro _ _ ⟨Ao, co, r0, rfl, rfl, hre0, hrl0⟩)
  refine wG rfl rfl (g_assign rfl (.mk (v := .slice _ _ _) rfl rfl)) ?_
  refine WL.nil ?_
  (refine hK _ _ ?_; clear hK)
  refine WC.seq fun K hK => ?_
  refine WC.seq fun K hK => ?_
  refine WC.region rfl ?_
  refine wG rfl rfl (g_move rfl (.mk (v := .slice _ _ _) rfl rfl)) ?_
  refine wG rfl rfl (g_len rfl (.mk rfl rfl) rfl) ?_
  refine wG rfl rfl (g_move rfl (.mk (v := .int _ _) rfl rfl)) ?_
  refine WL.nil ?_
  (refine hK _ _ ?_; clear hK)
  refine WC.block ?_
  rw [← hn] at hre0 hrl0
  refine WC.loopI2 (36028762659225792) (fun (i : Nat) (rs : List Row) => [(35, iv i)]) (fun i rs => [vec Ao r0.length co 111 1 (rs.map Row.v), rowsA rs]) (fun i rs => i ≤ n ∧ rs.length = n ∧ els rs = prg n (fun i => nth m i ++ (List.range n).map fun j => dlt i j) (zrow (2 * n)) (zrow (2 * n)) i) (fun i _ => n - i) 0 r0 ⟨rfl, trivial⟩ (by rw [List.append_nil]; exact .refl _) ⟨by omega, hrl0, by rw [hre0, prg_zero]⟩ ?_
  rintro i rs U ⟨hi, hrl, hre⟩
  by_cases hlt : i < n
  · have hri : (nth rs i).l = zrow (2 * n) := by rw [els_row hre (by omega), prg_at hlt]
    have hrl2 : (nth rs i).l.length = 2 * n := by rw [hri, zrow_len]
    have hral := hrow i hlt
    have hmi : (nth ra i).l = nth m i := by rw [hmm, els_at (by omega)]
    have hcl : (nth ra i).l.length ≤ (nth rs i).l.length := by omega
    refine WC.learn (fun w hw => rowA_some (k := i) (.tail _ (.head _)) (by omega) (by omega) w hw) fun hAs => ?_
    obtain ⟨r1, hr1⟩ : ∃ r1, r1 = (nth rs i).copy (nth ra i).l := ⟨_, rfl⟩
    have hr1A : r1.A = (nth rs i).A := by rw [hr1]; rfl
    have hr1l : r1.l.length = 2 * n := by rw [hr1, Row.copy, List.length_append, List.length_drop]; omega
    have hn1 : nth (rs.set i r1) i = r1 := by rw [nth_put (by omega), if_pos rfl]
    have hrow1 := ha.row (k := i) (by omega)
    refine WC.seq fun K hK => ?_
    refine WC.region rfl ?_
    refine wG rfl rfl (g_lt rfl (.mk rfl rfl) (.mk rfl rfl) (decide_eq_true (by omega))) ?_
    refine WL.nil ?_
    (refine hK _ _ ?_; clear hK)
    refine WC.seq fun K hK => ?_
    refine WC.cond_true (.mk rfl rfl) ?_
    refine WC.skip ?_
    (refine hK _ _ ?_; clear hK)
    refine WC.seq fun K hK => ?_
    refine WC.block ?_
    refine WC.seq fun K hK => ?_
    refine WC.region rfl ?_
    refine wG rfl rfl (g_move rfl (.mk (v := .int _ _) rfl rfl)) ?_
    refine wG rfl rfl (g_indexAddr (sz := 1) rfl (.mk rfl rfl) (.mk rfl rfl) rfl rfl rfl (by omega) (fun _ _ => sl_some hs (by omega))) ?_
    refine wG rfl rfl (g_load rfl (.mk rfl rfl) rfl (rd_sl hs (get1 (by omega)))) ?_
    refine wG rfl rfl (g_assign rfl (.mk (v := .int _ _) rfl rfl)) ?_
    refine wG rfl rfl (g_assign rfl (.mk (v := .slice _ _ _) rfl rfl)) ?_
    refine WL.nil ?_
    (refine hK _ _ ?_; clear hK)
    refine WC.seq fun K hK => ?_
    refine WC.region rfl ?_
    refine wG rfl rfl (g_move rfl (.mk (v := .slice _ _ _) rfl rfl)) ?_
    refine wG rfl rfl (g_move rfl (.mk (v := .int _ _) rfl rfl)) ?_
    refine wG rfl rfl (g_indexAddr (sz := 1) rfl (.mk rfl rfl) (.mk rfl rfl) rfl rfl rfl (by omega) (fun w hw => vec_some hw (.head _) (by omega))) ?_
    refine wG rfl rfl (g_load rfl (.mk rfl rfl) rfl (rd_vec (.head _) (get1 (by omega)))) ?_
    refine wG rfl rfl (g_move rfl (.mk (v := .slice _ _ _) rfl rfl)) ?_
    refine WL.want rfl (WL1.copyRow (l := (nth ra i).l) rfl (by kernel_rfl) rfl rfl (.mk rfl rfl) rfl rfl (.mk rfl rfl) (by omega) (by omega) hcl (fun w hw => Sl.below hrow1 hw.1) (.tail .head) ?_)
    refine WL.nil ?_
    (refine hK _ _ ?_; clear hK)
    refine WC.region rfl ?_
    refine wG rfl rfl (g_move rfl (.mk (v := .slice _ _ _) rfl rfl)) ?_
    refine wG rfl rfl (g_move rfl (.mk (v := .int _ _) rfl rfl)) ?_
    refine wG rfl rfl (g_indexAddr (sz := 1) rfl (.mk rfl rfl) (.mk rfl rfl) rfl rfl rfl (by omega) (fun w hw => vec_some hw (.head _) (by omega))) ?_
    refine wG rfl rfl (g_load rfl (.mk rfl rfl) rfl (rd_vec (.head _) (get1 (by omega)))) ?_
    refine wG rfl rfl (g_move rfl (.mk (v := .int _ _) rfl rfl)) ?_
    refine wG rfl rfl (g_move rfl (.mk (v := .int _ _) rfl rfl)) ?_
    refine wG rfl rfl (g_add rfl (.mk rfl rfl) (.mk rfl rfl) (IntWalk.i64_in _ (by omega))) ?_
    refine wG rfl rfl (g_indexAddr (sz := 1) rfl (.mk rfl rfl) (.mk rfl rfl) rfl rfl rfl (by omega) (fun _ _ => hAs)) ?_
    refine WL.want rfl (WL1.storeRow (rs := rs.set i ((nth rs i).copy (nth ra i).l)) (k := i) (g := 1) (j := ra.length + i) rfl rfl (.mk rfl rfl) (by rw [← hr1, hn1, hr1A]) rfl (.mk rfl rfl) rfl rfl (by rw [List.length_set]; omega) (by rw [← hr1, hn1]; omega) (.tail .head) ?_)
    refine WL.nil ?_
    (refine hK _ _ ?_; clear hK)
    refine WC.region rfl ?_
    refine wG rfl rfl (g_add rfl (.mk rfl rfl) (.mk rfl rfl) (IntWalk.i64_in _ (by omega))) ?_
    refine wG rfl rfl (g_move rfl (.mk (v := .int _ _) rfl rfl)) ?_
    refine WL.nil ?_
    refine ⟨i + 1, (rs.set i ((nth rs i).copy (nth ra i).l)).set i ((nth (rs.set i ((nth rs i).copy (nth ra i).l)) i).put (ra.length + i) 1), (by repeat (first | with_reducible exact Out.refl _ _ | refine Out.set rfl ?_ | refine Out.put rfl ?_ | refine Out.sets rfl ?_ | refine Out.hav rfl ?_ | exact Out.refl _ _)), ⟨rfl, trivial⟩, ?_, ⟨by omega, by rw [List.length_set, List.length_set, hrl], ?_⟩, by omega⟩
    · rw [rowsv_put (by rw [List.length_set]; omega), rowsv_copy (by omega) hcl]; exact .refl _
    · rw [els_set, els_set, List.set_set, ← hr1, hn1, hre]
      have e1 : (r1.put (ra.length + i) 1).l = nth m i ++ (List.range n).map fun j => dlt i j := by
        rw [hr1]
        show ((nth ra i).l ++ (nth rs i).l.drop (nth ra i).l.length).set (ra.length + i) 1 = _
        rw [hri, hmi, ← hn]
        exact augF hlt (by rw [← hmi]; exact hral)
      rw [e1]
      exact (prg_set hlt).trans prg_next
  · obtain rfl : i = n := by omega
    have hau : els rs = aug m i := by rw [hre, prg_all]; rfl
    refine WC.seq fun K hK => ?_
    refine WC.region rfl ?_
    refine wG rfl rfl (g_lt rfl (.mk rfl rfl) (.mk rfl rfl) (decide_eq_false (by omega))) ?_
    refine WL.nil ?_
    (refine hK _ _ ?_; clear hK)
    refine WC.seq fun K hK => ?_
    refine WC.cond_false (.mk rfl rfl) ?_
    refine WC.exit ?_
    (clear hK; refine hK _ _ ?_; clear hK)
    refine WC.seq fun K hK => ?_
    refine WC.seq fun K hK => ?_
    refine WC.region rfl ?_
    refine wG rfl rfl (g_move rfl (.mk (v := .int _ _) rfl rfl)) ?_
    refine wG rfl rfl (g_move rfl (.mk (v := .int _ _) rfl rfl)) ?_
    refine WL.nil ?_
    (refine hK _ _ ?_; clear hK)
    refine WC.block ?_
    refine WC.loopI3 (5575186299632655785383929496104496338575116) (fun (c : Nat) (a : List (List G)) (rs : List Row) => [(56, iv c)]) (fun c a rs => [vec Ao r0.length co 111 1 (rs.map Row.v), rowsA rs]) (fun c a rs => c ≤ i ∧ rs.length = i ∧ els rs = a ∧ Inv m a i c ∧ gjr i i (aug m i) = gjr i (i - c) a) (fun c _ _ => i - c) 0 (aug m i) rs ⟨rfl, trivial⟩ (.refl _) ⟨by omega, hrl, hau, aug_inv hshp, by rw [Nat.sub_zero]⟩ ?_
    clear hre hau
    rintro c a rs U ⟨hc, hrl, hre, hI, hgj⟩
    by_cases hlt : c < i
    · have hrow2 : ∀ q, q < i → (nth rs q).l.length = 2 * i := fun q hq => by rw [els_row hre (by omega)]; exact hI.shp.2 q hq
      have hpv := pvt_rows hre hrl hlt
      have hkk : i - c = (i - (c + 1)) + 1 := by omega
      rw [hkk] at hgj
      simp only [gjr] at hgj
      rw [show i - (i - (c + 1) + 1) = c from by omega] at hgj
      have hidx := fun (v : Value) (b : Nat) (w' : World) h1 h2 h3 => index_rows v (rs.drop c) b c w' h1 h2 h3
      rw [hpv] at hidx
      have hcol : ∀ k, k < (rs.drop c).length → c < (nth (rs.drop c) k).l.length := fun k hk => by rw [nth_drop, hrow2 _ (by rw [List.length_drop] at hk; omega)]; omega
      refine WC.learn (fun w hw => vec_some hw (.head _) (by omega)) fun hAo => ?_
      cases hp : pvt a i c with
      | none =>
        rw [hp] at hgj hidx
        rw [show fz none = -1 from rfl] at hidx
        have hfin : invM (els ra) = none := by rw [hinv, hgj]; rfl
        refine WC.seq fun K hK => ?_
        refine WC.region rfl ?_
        refine wG rfl rfl (g_lt rfl (.mk rfl rfl) (.mk rfl rfl) (decide_eq_true (by omega))) ?_
        refine WL.nil ?_
        (refine hK _ _ ?_; clear hK)
        refine WC.seq fun K hK => ?_
        refine WC.cond_true (.mk rfl rfl) ?_
        refine WC.skip ?_
        (refine hK _ _ ?_; clear hK)
        refine WC.seq fun K hK => ?_
        refine WC.block ?_
        refine WC.seq fun K hK => ?_
        refine WC.region rfl ?_
        refine wG rfl rfl (g_move rfl (.mk (v := .int _ _) rfl rfl)) ?_
        refine WL.want rfl (WL1.alloc rfl rfl rfl rfl (fun b8 => ?_))
        refine WL.want rfl (WL1.store1 rfl rfl (.mk rfl rfl) (.mk (v := .int _ _) rfl rfl) rfl rfl (Nat.le_of_ble_eq_true rfl) (.head) ?_)
        refine WL.nil ?_
        (refine hK _ _ ?_; clear hK)
        refine WC.seq fun K hK => ?_
        refine WC.region rfl ?_
        refine wG rfl rfl (g_move rfl (.mk (v := .slice _ _ _) rfl rfl)) ?_
        refine wG rfl rfl (g_load rfl (.mk rfl rfl) rfl (rd_pt (.head _) rfl)) ?_
        refine wG rfl rfl (g_sliceC (sz := 1) (kh := .i64) (q := 0) rfl (.mk rfl rfl) rfl rfl ⟨(.mk rfl rfl), rfl⟩ rfl (by omega) (fun w hw => Nat.le_trans (by omega) (vec_cap hw (.tail _ (.head _))))) ?_
        refine wG rfl rfl (g_makeFunc rfl (.cons (.mk (v := cellPtr _ _) rfl rfl) .nil)) ?_
        refine WL.want rfl (WL1.callP rfl rfl rfl (.cons (.mk (v := .slice _ _ _) rfl rfl) (.cons (.mk (v := .func _ _ _) rfl rfl) .nil)) (fun w hw => hidx _ b8 w (MatAt.tail hw (by repeat (first | exact .head _ | apply List.Mem.tail)) (by repeat (first | exact .head _ | apply List.Mem.tail)) (by omega) (by omega)) (cell_pt hw (by repeat (first | exact .head _ | apply List.Mem.tail)) rfl) hcol) ?_)
        refine wG rfl rfl (g_assign rfl (.mk (v := .int _ _) rfl rfl)) ?_
        refine WL.nil ?_
        (refine hK _ _ ?_; clear hK)
        refine WC.seq fun K hK => ?_
        refine WC.seq fun K hK => ?_
        refine WC.region rfl ?_
        refine wG rfl rfl (g_move rfl (.mk (v := .int _ _) rfl rfl)) ?_
        refine wG rfl rfl (g_lt rfl (.mk rfl rfl) (.mk rfl rfl) (decide_eq_true (by omega))) ?_
        refine WL.nil ?_
        (refine hK _ _ ?_; clear hK)
        refine WC.cond_true (.mk rfl rfl) ?_
        refine WC.seq fun K hK => ?_
        refine WC.region rfl ?_
        refine wG rfl rfl (g_assign rfl (.mk (v := .slice _ _ _) rfl rfl)) ?_
        refine wG rfl rfl (g_assign rfl (.mk (v := .int _ _) rfl rfl)) ?_
        refine WL.nil ?_
        (refine hK _ _ ?_; clear hK)
        refine WC.ret ?_
        exact fun w' hw' => ⟨_, _, rfl, hw', .inl ⟨hfin, rfl⟩⟩
      | some q =>
        rw [hp] at hgj hidx
        rw [show fz (some q) = (q : Int) from rfl] at hidx
        obtain ⟨hq, hI2⟩ := stp_inv hI hlt hp
        have hsw := swp_inv hI hlt hq (by omega)
        have hpc : el (swp a c (c + q)) c c ≠ 0 := by
          rw [swp_el hI.shp hlt hq]
          have h3 := nz_t.1 (fnd_some hp).2.1
          by_cases e : c = c + q
          · rw [if_pos e]; rw [← e] at h3; exact h3
          · rw [if_neg e, if_pos rfl]; exact h3
        have hadd : IntKind.i64.wrap ((c : Int) + (q : Int)) = ((c + q : Nat) : Int) := by rw [IntWalk.i64_in _ (by omega)]; omega
        have hmapl : (rs.map Row.v).length = i := by rw [List.length_map, hrl]
        refine WC.seq fun K hK => ?_
        refine WC.region rfl ?_
        refine wG rfl rfl (g_lt rfl (.mk rfl rfl) (.mk rfl rfl) (decide_eq_true (by omega))) ?_
        refine WL.nil ?_
        (refine hK _ _ ?_; clear hK)
        refine WC.seq fun K hK => ?_
        refine WC.cond_true (.mk rfl rfl) ?_
        refine WC.skip ?_
        (refine hK _ _ ?_; clear hK)
        refine WC.seq fun K hK => ?_
        refine WC.block ?_
        refine WC.seq fun K hK => ?_
        refine WC.region rfl ?_
        refine wG rfl rfl (g_move rfl (.mk (v := .int _ _) rfl rfl)) ?_
        refine WL.want rfl (WL1.alloc rfl rfl rfl rfl (fun b8 => ?_))
        refine WL.want rfl (WL1.store1 rfl rfl (.mk rfl rfl) (.mk (v := .int _ _) rfl rfl) rfl rfl (Nat.le_of_ble_eq_true rfl) (.head) ?_)
        refine WL.nil ?_
        (refine hK _ _ ?_; clear hK)
        refine WC.seq fun K hK => ?_
        refine WC.region rfl ?_
        refine wG rfl rfl (g_move rfl (.mk (v := .slice _ _ _) rfl rfl)) ?_
        refine wG rfl rfl (g_load rfl (.mk rfl rfl) rfl (rd_pt (.head _) rfl)) ?_
        refine wG rfl rfl (g_sliceC (sz := 1) (kh := .i64) (q := 0) rfl (.mk rfl rfl) rfl rfl ⟨(.mk rfl rfl), rfl⟩ rfl (by omega) (fun w hw => Nat.le_trans (by omega) (vec_cap hw (.tail _ (.head _))))) ?_
        refine wG rfl rfl (g_makeFunc rfl (.cons (.mk (v := cellPtr _ _) rfl rfl) .nil)) ?_
        refine WL.want rfl (WL1.callP rfl rfl rfl (.cons (.mk (v := .slice _ _ _) rfl rfl) (.cons (.mk (v := .func _ _ _) rfl rfl) .nil)) (fun w hw => hidx _ b8 w (MatAt.tail hw (by repeat (first | exact .head _ | apply List.Mem.tail)) (by repeat (first | exact .head _ | apply List.Mem.tail)) (by omega) (by omega)) (cell_pt hw (by repeat (first | exact .head _ | apply List.Mem.tail)) rfl) hcol) ?_)
        refine wG rfl rfl (g_assign rfl (.mk (v := .int _ _) rfl rfl)) ?_
        refine WL.nil ?_
        (refine hK _ _ ?_; clear hK)
        refine WC.seq fun K hK => ?_
        refine WC.seq fun K hK => ?_
        refine WC.region rfl ?_
        refine wG rfl rfl (g_move rfl (.mk (v := .int _ _) rfl rfl)) ?_
        refine wG rfl rfl (g_lt rfl (.mk rfl rfl) (.mk rfl rfl) (decide_eq_false (by omega))) ?_
        refine WL.nil ?_
        (refine hK _ _ ?_; clear hK)
        refine WC.cond_false (.mk rfl rfl) ?_
        refine WC.skip ?_
        (refine hK _ _ ?_; clear hK)
        refine WC.seqP (19342739326857771957092352) (fun _ : List Row => []) (fun r1 => [vec Ao r0.length co 111 1 (r1.map Row.v), rowsA r1, pt b8 3 [iv c]]) (fun r1 => r1.length = i ∧ els r1 = swp a c (c + q)) ?_ (fun r1 V hr1 => ?_)
        refine WC.held [pt b8 3 [iv c], rowsA rs] rfl (by kernel_rfl) ?_
        refine WH.take 0 rfl (by decide +kernel) (by decide +kernel) (by decide +kernel) rfl rfl (Imp.sub (by first | ((repeat (first | exact List.nil_sublist _ | apply List.Sublist.cons_cons | apply List.Sublist.cons)); done) | fail)) (g_move rfl (.mk (v := .slice _ _ _) rfl rfl)) ?_
        refine WH.take 1 rfl (by decide +kernel) (by decide +kernel) (by decide +kernel) rfl rfl (Imp.sub (by first | ((repeat (first | exact List.nil_sublist _ | apply List.Sublist.cons_cons | apply List.Sublist.cons)); done) | fail)) (g_load rfl (.mk rfl rfl) rfl (rd_pt (.head _) rfl)) ?_
        refine WH.take 2 rfl (by decide +kernel) (by decide +kernel) (by decide +kernel) rfl rfl (Imp.sub (by first | ((repeat (first | exact List.nil_sublist _ | apply List.Sublist.cons_cons | apply List.Sublist.cons)); done) | fail)) (g_move rfl (.mk (v := .slice _ _ _) rfl rfl)) ?_
        refine WH.take 3 rfl (by decide +kernel) (by decide +kernel) (by decide +kernel) rfl rfl (Imp.sub (by first | ((repeat (first | exact List.nil_sublist _ | apply List.Sublist.cons_cons | apply List.Sublist.cons)); done) | fail)) (g_load rfl (.mk rfl rfl) rfl (rd_pt (.head _) rfl)) ?_
        refine WH.take 4 rfl (by decide +kernel) (by decide +kernel) (by decide +kernel) rfl rfl (Imp.sub (by first | ((repeat (first | exact List.nil_sublist _ | apply List.Sublist.cons_cons | apply List.Sublist.cons)); done) | fail)) (g_move rfl (.mk (v := .int _ _) rfl rfl)) ?_
        refine WH.take 5 rfl (by decide +kernel) (by decide +kernel) (by decide +kernel) rfl rfl (Imp.sub (by first | ((repeat (first | exact List.nil_sublist _ | apply List.Sublist.cons_cons | apply List.Sublist.cons)); done) | fail)) (g_add rfl (.mk rfl rfl) (.mk rfl rfl) hadd) ?_
        refine WH.take 6 rfl (by decide +kernel) (by decide +kernel) (by decide +kernel) rfl rfl (Imp.sub (by first | ((repeat (first | exact List.nil_sublist _ | apply List.Sublist.cons_cons | apply List.Sublist.cons)); done) | fail)) (g_move rfl (.mk (v := .slice _ _ _) rfl rfl)) ?_
        refine WH.take 7 rfl (by decide +kernel) (by decide +kernel) (by decide +kernel) rfl rfl (Imp.sub (by first | ((repeat (first | exact List.nil_sublist _ | apply List.Sublist.cons_cons | apply List.Sublist.cons)); done) | fail)) (g_load rfl (.mk rfl rfl) rfl (rd_pt (.head _) rfl)) ?_
        refine WH.take 8 rfl (by decide +kernel) (by decide +kernel) (by decide +kernel) rfl rfl (Imp.sub (by first | ((repeat (first | exact List.nil_sublist _ | apply List.Sublist.cons_cons | apply List.Sublist.cons)); done) | fail)) (g_move rfl (.mk (v := .int _ _) rfl rfl)) ?_
        refine WH.take 9 rfl (by decide +kernel) (by decide +kernel) (by decide +kernel) rfl rfl (Imp.sub (by first | ((repeat (first | exact List.nil_sublist _ | apply List.Sublist.cons_cons | apply List.Sublist.cons)); done) | fail)) (g_add rfl (.mk rfl rfl) (.mk rfl rfl) hadd) ?_
        refine WH.take 10 rfl (by decide +kernel) (by decide +kernel) (by decide +kernel) rfl rfl (Imp.sub (by first | ((repeat (first | exact List.nil_sublist _ | apply List.Sublist.cons_cons | apply List.Sublist.cons)); done) | fail)) (g_indexAddr (sz := 1) rfl (.mk rfl rfl) (.mk rfl rfl) rfl rfl rfl (by omega) (fun _ _ => hAo)) ?_
        refine WH.take 12 rfl (by decide +kernel) (by decide +kernel) (by decide +kernel) rfl rfl (Imp.sub (by first | ((repeat (first | exact List.nil_sublist _ | apply List.Sublist.cons_cons | apply List.Sublist.cons)); done) | fail)) (g_move rfl (.mk (v := .slice _ _ _) rfl rfl)) ?_
        refine WH.take 13 rfl (by decide +kernel) (by decide +kernel) (by decide +kernel) rfl rfl (Imp.sub (by first | ((repeat (first | exact List.nil_sublist _ | apply List.Sublist.cons_cons | apply List.Sublist.cons)); done) | fail)) (g_load rfl (.mk rfl rfl) rfl (rd_pt (.head _) rfl)) ?_
        refine WH.take 14 rfl (by decide +kernel) (by decide +kernel) (by decide +kernel) rfl rfl (Imp.sub (by first | ((repeat (first | exact List.nil_sublist _ | apply List.Sublist.cons_cons | apply List.Sublist.cons)); done) | fail)) (g_indexAddr (sz := 1) rfl (.mk rfl rfl) (.mk rfl rfl) rfl rfl rfl (by omega) (fun _ _ => hAo)) ?_
        refine WH.two 11 15 (by decide +kernel) rfl rfl rfl rfl ?_ ?_
        refine WL1.give rfl (g_load rfl (.mk rfl rfl) rfl (rd_vec (.tail _ (.head _)) (get1 (by omega)))) ?_
        refine WL.nil ?_
        refine ⟨(Imp.sub (by first | ((repeat (first | exact List.nil_sublist _ | apply List.Sublist.cons_cons | apply List.Sublist.cons)); done) | fail)), ?_⟩
        refine WH.one 15 (by decide +kernel) rfl rfl ?_
        refine WL1.give rfl (g_load rfl (.mk rfl rfl) rfl (rd_vec (.tail _ (.head _)) (get1 (by omega)))) ?_
        refine WL.nil ?_
        refine ⟨(Imp.sub (by first | ((repeat (first | exact List.nil_sublist _ | apply List.Sublist.cons_cons | apply List.Sublist.cons)); done) | fail)), ?_⟩
        refine WH.take 16 rfl (by decide +kernel) (by decide +kernel) (by decide +kernel) rfl rfl (Imp.sub (by first | ((repeat (first | exact List.nil_sublist _ | apply List.Sublist.cons_cons | apply List.Sublist.cons)); done) | fail)) (g_indexAddr (sz := 1) rfl (.mk rfl rfl) (.mk rfl rfl) rfl rfl rfl (by omega) (fun _ _ => hAo)) ?_
        refine WH.one 17 (by decide +kernel) rfl rfl ?_
        refine WL1.storeV1 rfl rfl (.mk rfl rfl) (.mk (v := Row.v _) rfl rfl) rfl rfl (by first | omega | (simp; done) | (simp; omega)) (.tail (.head)) ?_
        refine WL.nil ?_
        refine ⟨(Imp.sub (by first | ((repeat (first | exact List.nil_sublist _ | apply List.Sublist.cons_cons | apply List.Sublist.cons)); done) | fail)), ?_⟩
        refine WH.take 18 rfl (by decide +kernel) (by decide +kernel) (by decide +kernel) rfl rfl (Imp.sub (by first | ((repeat (first | exact List.nil_sublist _ | apply List.Sublist.cons_cons | apply List.Sublist.cons)); done) | fail)) (g_indexAddr (sz := 1) rfl (.mk rfl rfl) (.mk rfl rfl) rfl rfl rfl (by omega) (fun _ _ => hAo)) ?_
        refine WH.one 19 (by decide +kernel) rfl rfl ?_
        refine WL1.storeV1 rfl rfl (.mk rfl rfl) (.mk (v := Row.v _) rfl rfl) rfl rfl (by first | omega | (simp; done) | (simp; omega)) (.tail (.head)) ?_
        refine WL.nil ?_
        refine ⟨(Imp.sub (by first | ((repeat (first | exact List.nil_sublist _ | apply List.Sublist.cons_cons | apply List.Sublist.cons)); done) | fail)), ?_⟩
        refine WH.done (by decide +kernel) ?_
        rotate_left
        refine WL1.give rfl (g_load rfl (.mk rfl rfl) rfl (rd_vec (.tail _ (.head _)) (get1 (by omega)))) ?_
        refine WL.nil ?_
        refine ⟨(Imp.sub (by first | ((repeat (first | exact List.nil_sublist _ | apply List.Sublist.cons_cons | apply List.Sublist.cons)); done) | fail)), ?_⟩
        refine WH.one 11 (by decide +kernel) rfl rfl ?_
        refine WL1.give rfl (g_load rfl (.mk rfl rfl) rfl (rd_vec (.tail _ (.head _)) (get1 (by omega)))) ?_
        refine WL.nil ?_
        refine ⟨(Imp.sub (by first | ((repeat (first | exact List.nil_sublist _ | apply List.Sublist.cons_cons | apply List.Sublist.cons)); done) | fail)), ?_⟩
        refine WH.take 16 rfl (by decide +kernel) (by decide +kernel) (by decide +kernel) rfl rfl (Imp.sub (by first | ((repeat (first | exact List.nil_sublist _ | apply List.Sublist.cons_cons | apply List.Sublist.cons)); done) | fail)) (g_indexAddr (sz := 1) rfl (.mk rfl rfl) (.mk rfl rfl) rfl rfl rfl (by omega) (fun _ _ => hAo)) ?_
        refine WH.one 17 (by decide +kernel) rfl rfl ?_
        refine WL1.storeV1 rfl rfl (.mk rfl rfl) (.mk (v := Row.v _) rfl rfl) rfl rfl (by first | omega | (simp; done) | (simp; omega)) (.tail (.head)) ?_
        refine WL.nil ?_
        refine ⟨(Imp.sub (by first | ((repeat (first | exact List.nil_sublist _ | apply List.Sublist.cons_cons | apply List.Sublist.cons)); done) | fail)), ?_⟩
        refine WH.take 18 rfl (by decide +kernel) (by decide +kernel) (by decide +kernel) rfl rfl (Imp.sub (by first | ((repeat (first | exact List.nil_sublist _ | apply List.Sublist.cons_cons | apply List.Sublist.cons)); done) | fail)) (g_indexAddr (sz := 1) rfl (.mk rfl rfl) (.mk rfl rfl) rfl rfl rfl (by omega) (fun _ _ => hAo)) ?_
        refine WH.one 19 (by decide +kernel) rfl rfl ?_
        refine WL1.storeV1 rfl rfl (.mk rfl rfl) (.mk (v := Row.v _) rfl rfl) rfl rfl (by first | omega | (simp; done) | (simp; omega)) (.tail (.head)) ?_
        refine WL.nil ?_
        refine ⟨(Imp.sub (by first | ((repeat (first | exact List.nil_sublist _ | apply List.Sublist.cons_cons | apply List.Sublist.cons)); done) | fail)), ?_⟩
        refine WH.done (by decide +kernel) ?_
        rotate_left
        rotate_left
        · exact ⟨swpR rs c (c + q), (by repeat (first | with_reducible exact Out.refl _ _ | refine Out.set rfl ?_ | refine Out.put rfl ?_ | refine Out.sets rfl ?_ | refine Out.hav rfl ?_ | exact Out.refl _ _)), trivial, by rw [swpR_v, Nat.mul_one, Nat.mul_one]; exact (Imp.rowsP (swpR_perm (rs := rs) (c := c) (q := c + q) (by omega) (by omega)) (.tail (.tail .head))).trans (Imp.perm perm3), by rw [swpR_len, hrl], by rw [swpR_els (rs := rs) (c := c) (q := c + q) (by omega) (by omega), hre]⟩
        · exact ⟨swpR rs c (c + q), (by repeat (first | with_reducible exact Out.refl _ _ | refine Out.set rfl ?_ | refine Out.put rfl ?_ | refine Out.sets rfl ?_ | refine Out.hav rfl ?_ | exact Out.refl _ _)), trivial, by rw [swpR_v, Nat.mul_one, Nat.mul_one]; exact (Imp.rowsP (swpR_perm (rs := rs) (c := c) (q := c + q) (by omega) (by omega)) (.tail (.tail .head))).trans (Imp.perm perm3), by rw [swpR_len, hrl], by rw [swpR_els (rs := rs) (c := c) (q := c + q) (by omega) (by omega), hre]⟩
        obtain ⟨hrl1, hre1⟩ := hr1
        obtain ⟨a1, ha1⟩ : ∃ a1, a1 = swp a c (c + q) := ⟨_, rfl⟩
        rw [← ha1] at hre1 hpc hsw
        have hrow3 : ∀ p, p < i → (nth r1 p).l.length = 2 * i := fun p hp => by rw [els_row hre1 (by omega)]; exact hsw.shp.2 p hp
        have hpv1 : nth (nth r1 c).l c ≠ 0 := by rw [el_row (by omega), hre1]; exact hpc
        have hrc := hrow3 c hlt
        have hzl : (zrow (2 * i)).length = 2 * i := zrow_len _
        obtain ⟨f, hf⟩ : ∃ f, f = gfused (zrow (2 * i)) (nth r1 c).l (ginv (nth (nth r1 c).l c)) := ⟨_, rfl⟩
        have hfl : f.length = 2 * i := by rw [hf, gfused_length _ _ _ (by omega), hzl]
        have hfn : ∀ (v1 v2 : Value) (w' : World), Sl w' 1 v1 (2 * i) (bvs (zrow (2 * i))) → Sl w' 1 v2 (nth r1 c).l.length (bvs (nth r1 c).l) → Calls Try.prog 104 #[v1, v2, bv (ginv (nth (nth r1 c).l c))] w' fun e w2 => ∃ v M, e = .returned v ∧ H w' M w2 ∧ ∃ A cc, v = .tuple #[.slice A (2 * i) cc, iv 0] ∧ M = [vec A (2 * i) cc 5 1 (bvs f)] := fun v1 v2 w' h1 h2 => by
          have := fused_n v1 v2 (zrow (2 * i)) (nth r1 c).l (ginv (nth (nth r1 c).l c)) w' (by rw [hzl]; exact h1) h2 (by omega) (by omega)
          rwa [hzl, ← hf] at this
        have hfa : f = gfused (zrow (2 * i)) (nth a1 c) (ginv (el a1 c c)) := by rw [hf, els_row hre1 (k := c) (by omega)]; rfl
        have hmapl1 : (r1.map Row.v).length = i := by rw [List.length_map, hrl1]
        refine WC.seq fun K hK => ?_
        refine WC.quiet rfl (by kernel_rfl) (by decide +kernel) ?_
        refine WQ.want rfl (WQ1.give rfl (g_move rfl (.mk (v := .slice _ _ _) rfl rfl)) ?_)
        refine WQ.want rfl (WQ1.give rfl (g_load rfl (.mk rfl rfl) rfl (rd_pt (.tail _ (.tail _ (.head _))) rfl)) ?_)
        refine WQ.want rfl (WQ1.give rfl (g_indexAddr (sz := 1) rfl (.mk rfl rfl) (.mk rfl rfl) rfl rfl rfl (by omega) (fun _ _ => hAo)) ?_)
        refine WQ.want rfl (WQ1.give rfl (g_load rfl (.mk rfl rfl) rfl (rd_vec (.head _) (get1 (by omega)))) ?_)
        refine WQ.want rfl (WQ1.give rfl (g_load rfl (.mk rfl rfl) rfl (rd_pt (.tail _ (.tail _ (.head _))) rfl)) ?_)
        refine WQ.want rfl (WQ1.give rfl (g_indexAddr (sz := 1) rfl (.mk rfl rfl) (.mk rfl rfl) rfl rfl rfl (by omega) (rowA_some (.tail _ (.head _)) (by omega) (by omega))) ?_)
        refine WQ.want rfl (WQ1.give rfl (g_load rfl (.mk rfl rfl) rfl (rd_rowA (.tail _ (.head _)) (by omega) (by omega))) ?_)
        refine WQ.want rfl (WQ1.callP rfl rfl rfl (.cons (.mk (v := .int _ _) rfl rfl) .nil) (fun w hw => Calls.belowS (inv_c (nth (nth r1 c).l c) hpv1 w)) ?_)
        refine WQ.want rfl (WQ1.give rfl (g_move rfl (.mk (v := .tuple _) rfl rfl)) ?_)
        refine WQ.want rfl (WQ1.give rfl (g_extract rfl (.mk rfl rfl) rfl) ?_)
        refine WQ.want rfl (WQ1.give rfl (g_extract rfl (.mk rfl rfl) rfl) ?_)
        refine WQ.want rfl (WQ1.give rfl (g_assign rfl (.mk (v := .int _ _) rfl rfl)) ?_)
        refine WQ.want rfl (WQ1.give rfl (g_assign rfl (.mk (v := .int _ _) rfl rfl)) ?_)
        refine WQ.nil ?_
        (refine hK _ _ ?_; clear hK)
        refine WC.seqP (1298034600552449774963827310329856) (fun _ : List Row => []) (fun r2 => [vec Ao r0.length co 111 1 (r2.map Row.v), rowsA r2, pt b8 3 [iv c]]) (fun r2 => r2.length = i ∧ els r2 = nrm a1 (2 * i) c) ?_ (fun r2 V hr2 => ?_)
        refine WC.held [rowsA r1, pt b8 3 [iv c]] rfl (by kernel_rfl) ?_
        refine WH.take 0 rfl (by decide +kernel) (by decide +kernel) (by decide +kernel) rfl rfl (Imp.sub (by first | ((repeat (first | exact List.nil_sublist _ | apply List.Sublist.cons_cons | apply List.Sublist.cons)); done) | fail)) (g_move rfl (.mk (v := .slice _ _ _) rfl rfl)) ?_
        refine WH.take 1 rfl (by decide +kernel) (by decide +kernel) (by decide +kernel) rfl rfl (Imp.sub (by first | ((repeat (first | exact List.nil_sublist _ | apply List.Sublist.cons_cons | apply List.Sublist.cons)); done) | fail)) (g_load rfl (.mk rfl rfl) rfl (rd_pt (.tail _ (.head _)) rfl)) ?_
        refine WH.take 2 rfl (by decide +kernel) (by decide +kernel) (by decide +kernel) rfl rfl (Imp.sub (by first | ((repeat (first | exact List.nil_sublist _ | apply List.Sublist.cons_cons | apply List.Sublist.cons)); done) | fail)) (g_move rfl (.mk (v := .int _ _) rfl rfl)) ?_
        refine WH.take 3 rfl (by decide +kernel) (by decide +kernel) (by decide +kernel) rfl rfl (Imp.sub (by first | ((repeat (first | exact List.nil_sublist _ | apply List.Sublist.cons_cons | apply List.Sublist.cons)); done) | fail)) (g_mul rfl (.mk rfl rfl) (.mk rfl rfl) hmul) ?_
        refine WH.take 5 rfl (by decide +kernel) (by decide +kernel) (by decide +kernel) rfl rfl (Imp.sub (by first | ((repeat (first | exact List.nil_sublist _ | apply List.Sublist.cons_cons | apply List.Sublist.cons)); done) | fail)) (g_move rfl (.mk (v := .slice _ _ _) rfl rfl)) ?_
        refine WH.take 6 rfl (by decide +kernel) (by decide +kernel) (by decide +kernel) rfl rfl (Imp.sub (by first | ((repeat (first | exact List.nil_sublist _ | apply List.Sublist.cons_cons | apply List.Sublist.cons)); done) | fail)) (g_load rfl (.mk rfl rfl) rfl (rd_pt (.tail _ (.head _)) rfl)) ?_
        refine WH.take 7 rfl (by decide +kernel) (by decide +kernel) (by decide +kernel) rfl rfl (Imp.sub (by first | ((repeat (first | exact List.nil_sublist _ | apply List.Sublist.cons_cons | apply List.Sublist.cons)); done) | fail)) (g_indexAddr (sz := 1) rfl (.mk rfl rfl) (.mk rfl rfl) rfl rfl rfl (by omega) (fun _ _ => hAo)) ?_
        refine WH.take 9 rfl (by decide +kernel) (by decide +kernel) (by decide +kernel) rfl rfl (Imp.sub (by first | ((repeat (first | exact List.nil_sublist _ | apply List.Sublist.cons_cons | apply List.Sublist.cons)); done) | fail)) (g_move rfl (.mk (v := .int _ _) rfl rfl)) ?_
        refine WH.two 4 8 (by decide +kernel) rfl rfl rfl rfl ?_ ?_
        refine WL1.make elB rfl rfl (.mk rfl rfl) (.mk rfl rfl) rfl rfl (by omega) (by unfold maxLen; omega) (fun b100 => ?_)
        refine WL.nil ?_
        refine ⟨(Imp.sub (by first | ((repeat (first | exact List.nil_sublist _ | apply List.Sublist.cons_cons | apply List.Sublist.cons)); done) | fail)), ?_⟩
        refine WH.one 8 (by decide +kernel) rfl rfl ?_
        refine WL1.give rfl (g_load rfl (.mk rfl rfl) rfl (rd_vec (.tail _ (.head _)) (get1 (by omega)))) ?_
        refine WL.nil ?_
        refine ⟨(Imp.sub (by first | ((repeat (first | exact List.nil_sublist _ | apply List.Sublist.cons_cons | apply List.Sublist.cons)); done) | fail)), ?_⟩
        refine WH.one 10 (by decide +kernel) rfl rfl ?_
        (refine WL1.callN rfl rfl rfl (.cons (.mk (v := .slice _ _ _) rfl rfl) (.cons (.mk (v := .slice _ _ _) rfl rfl) (.cons (.mk (v := .int _ _) rfl rfl) .nil))) (fun w hw => hfn _ _ w (Sl.of_vecE hw (by repeat (first | exact .head _ | apply List.Mem.tail)) (by omega) ((madeU _).trans (by rw [← hn]; rfl))) (Sl.of_rowA hw (by repeat (first | exact .head _ | apply List.Mem.tail)) (by omega))) ?_; rintro _ _ ⟨Af, cf, rfl, rfl⟩)
        refine WL.nil ?_
        refine ⟨(Imp.sub (by first | ((repeat (first | exact List.nil_sublist _ | apply List.Sublist.cons_cons | apply List.Sublist.cons)); done) | fail)), ?_⟩
        refine WH.take 11 rfl (by decide +kernel) (by decide +kernel) (by decide +kernel) rfl rfl (Imp.sub (by first | ((repeat (first | exact List.nil_sublist _ | apply List.Sublist.cons_cons | apply List.Sublist.cons)); done) | fail)) (g_move rfl (.mk (v := .tuple _) rfl rfl)) ?_
        refine WH.take 12 rfl (by decide +kernel) (by decide +kernel) (by decide +kernel) rfl rfl (Imp.sub (by first | ((repeat (first | exact List.nil_sublist _ | apply List.Sublist.cons_cons | apply List.Sublist.cons)); done) | fail)) (g_extract rfl (.mk rfl rfl) rfl) ?_
        refine WH.take 13 rfl (by decide +kernel) (by decide +kernel) (by decide +kernel) rfl rfl (Imp.sub (by first | ((repeat (first | exact List.nil_sublist _ | apply List.Sublist.cons_cons | apply List.Sublist.cons)); done) | fail)) (g_extract rfl (.mk rfl rfl) rfl) ?_
        refine WH.take 14 rfl (by decide +kernel) (by decide +kernel) (by decide +kernel) rfl rfl (Imp.sub (by first | ((repeat (first | exact List.nil_sublist _ | apply List.Sublist.cons_cons | apply List.Sublist.cons)); done) | fail)) (g_indexAddr (sz := 1) rfl (.mk rfl rfl) (.mk rfl rfl) rfl rfl rfl (by omega) (fun _ _ => hAo)) ?_
        refine WH.one 15 (by decide +kernel) rfl rfl ?_
        refine WL1.storeV1 rfl rfl (.mk rfl rfl) (.mk (v := .slice _ _ _) rfl rfl) rfl rfl (by first | omega | (simp; done) | (simp; omega)) (.tail (.tail (.head))) ?_
        refine WL.nil ?_
        refine ⟨(Imp.sub (by first | ((repeat (first | exact List.nil_sublist _ | apply List.Sublist.cons_cons | apply List.Sublist.cons)); done) | fail)), ?_⟩
        refine WH.done (by decide +kernel) ?_
        rotate_left
        refine WL1.give rfl (g_load rfl (.mk rfl rfl) rfl (rd_vec (.head _) (get1 (by omega)))) ?_
        refine WL.nil ?_
        refine ⟨(Imp.sub (by first | ((repeat (first | exact List.nil_sublist _ | apply List.Sublist.cons_cons | apply List.Sublist.cons)); done) | fail)), ?_⟩
        refine WH.one 4 (by decide +kernel) rfl rfl ?_
        refine WL1.make elB rfl rfl (.mk rfl rfl) (.mk rfl rfl) rfl rfl (by omega) (by unfold maxLen; omega) (fun b100 => ?_)
        refine WL.nil ?_
        refine ⟨(Imp.sub (by first | ((repeat (first | exact List.nil_sublist _ | apply List.Sublist.cons_cons | apply List.Sublist.cons)); done) | fail)), ?_⟩
        refine WH.one 10 (by decide +kernel) rfl rfl ?_
        (refine WL1.callN rfl rfl rfl (.cons (.mk (v := .slice _ _ _) rfl rfl) (.cons (.mk (v := .slice _ _ _) rfl rfl) (.cons (.mk (v := .int _ _) rfl rfl) .nil))) (fun w hw => hfn _ _ w (Sl.of_vecE hw (by repeat (first | exact .head _ | apply List.Mem.tail)) (by omega) ((madeU _).trans (by rw [← hn]; rfl))) (Sl.of_rowA hw (by repeat (first | exact .head _ | apply List.Mem.tail)) (by omega))) ?_; rintro _ _ ⟨Af, cf, rfl, rfl⟩)
        refine WL.nil ?_
        refine ⟨(Imp.sub (by first | ((repeat (first | exact List.nil_sublist _ | apply List.Sublist.cons_cons | apply List.Sublist.cons)); done) | fail)), ?_⟩
        refine WH.take 11 rfl (by decide +kernel) (by decide +kernel) (by decide +kernel) rfl rfl (Imp.sub (by first | ((repeat (first | exact List.nil_sublist _ | apply List.Sublist.cons_cons | apply List.Sublist.cons)); done) | fail)) (g_move rfl (.mk (v := .tuple _) rfl rfl)) ?_
        refine WH.take 12 rfl (by decide +kernel) (by decide +kernel) (by decide +kernel) rfl rfl (Imp.sub (by first | ((repeat (first | exact List.nil_sublist _ | apply List.Sublist.cons_cons | apply List.Sublist.cons)); done) | fail)) (g_extract rfl (.mk rfl rfl) rfl) ?_
        refine WH.take 13 rfl (by decide +kernel) (by decide +kernel) (by decide +kernel) rfl rfl (Imp.sub (by first | ((repeat (first | exact List.nil_sublist _ | apply List.Sublist.cons_cons | apply List.Sublist.cons)); done) | fail)) (g_extract rfl (.mk rfl rfl) rfl) ?_
        refine WH.take 14 rfl (by decide +kernel) (by decide +kernel) (by decide +kernel) rfl rfl (Imp.sub (by first | ((repeat (first | exact List.nil_sublist _ | apply List.Sublist.cons_cons | apply List.Sublist.cons)); done) | fail)) (g_indexAddr (sz := 1) rfl (.mk rfl rfl) (.mk rfl rfl) rfl rfl rfl (by omega) (fun _ _ => hAo)) ?_
        refine WH.one 15 (by decide +kernel) rfl rfl ?_
        refine WL1.storeV1 rfl rfl (.mk rfl rfl) (.mk (v := .slice _ _ _) rfl rfl) rfl rfl (by first | omega | (simp; done) | (simp; omega)) (.tail (.tail (.head))) ?_
        refine WL.nil ?_
        refine ⟨(Imp.sub (by first | ((repeat (first | exact List.nil_sublist _ | apply List.Sublist.cons_cons | apply List.Sublist.cons)); done) | fail)), ?_⟩
        refine WH.done (by decide +kernel) ?_
        rotate_left
        rotate_left
        · refine ⟨r1.set c ⟨Af, cf, f⟩, (by repeat (first | with_reducible exact Out.refl _ _ | refine Out.set rfl ?_ | refine Out.put rfl ?_ | refine Out.sets rfl ?_ | refine Out.hav rfl ?_ | exact Out.refl _ _)), trivial, ?_, by rw [List.length_set, hrl1], by rw [els_set, hre1, hfa]; rfl⟩
          rw [rowsv_set, Nat.mul_one c, v_of hfl, own_of hfl]
          refine Imp.trans (Imp.put2 (rs := r1) (k := c) (r := ⟨Af, cf, f⟩) (by repeat (first | exact .head | apply Take.tail)) (by repeat (first | exact .head | apply Swap.tail)) (by omega)) ?_
          exact Imp.sub (by repeat (first | exact List.nil_sublist _ | apply List.Sublist.cons_cons | apply List.Sublist.cons))
        · refine ⟨r1.set c ⟨Af, cf, f⟩, (by repeat (first | with_reducible exact Out.refl _ _ | refine Out.set rfl ?_ | refine Out.put rfl ?_ | refine Out.sets rfl ?_ | refine Out.hav rfl ?_ | exact Out.refl _ _)), trivial, ?_, by rw [List.length_set, hrl1], by rw [els_set, hre1, hfa]; rfl⟩
          rw [rowsv_set, Nat.mul_one c, v_of hfl, own_of hfl]
          refine Imp.trans (Imp.put2 (rs := r1) (k := c) (r := ⟨Af, cf, f⟩) (by repeat (first | exact .head | apply Take.tail)) (by repeat (first | exact .head | apply Swap.tail)) (by omega)) ?_
          exact Imp.sub (by repeat (first | exact List.nil_sublist _ | apply List.Sublist.cons_cons | apply List.Sublist.cons))
        obtain ⟨hrl2, hre2⟩ := hr2
        obtain ⟨a2, ha2⟩ : ∃ a2, a2 = nrm a1 (2 * i) c := ⟨_, rfl⟩
        rw [← ha2] at hre2
        have hs2 : Shp a2 i (2 * i) := by rw [ha2]; exact nrm_shp hsw.shp hlt
        have hst : elm a2 i c i = stp a i c q := by rw [ha2, ha1]; rfl
        refine WC.seq fun K hK => ?_
        refine WC.region rfl ?_
        refine wG rfl rfl (g_move rfl (.mk (v := .slice _ _ _) rfl rfl)) ?_
        refine wG rfl rfl (g_len rfl (.mk rfl rfl) rfl) ?_
        refine wG rfl rfl (g_move rfl (.mk (v := .int _ _) rfl rfl)) ?_
        refine WL.nil ?_
        (refine hK _ _ ?_; clear hK)
        refine WC.block ?_
        refine WC.loopI2 (2787593144624031034157137155550548859031552) (fun (j : Nat) (r3 : List Row) => [(112, iv j)]) (fun j r3 => [vec Ao r0.length co 111 1 (r3.map Row.v), rowsA r3, pt b8 3 [iv c]]) (fun j r3 => j ≤ i ∧ r3.length = i ∧ els r3 = elm a2 i c j) (fun j _ => i - j) 0 r2 ⟨rfl, trivial⟩ (.refl _) ⟨by omega, hrl2, by rw [hre2, elm_zero hs2.1]⟩ ?_
        rintro j r3 U3 ⟨hj, hrl3, hre3⟩
        have hrow4 : ∀ p, p < i → (nth r3 p).l.length = 2 * i := fun p hp => by rw [els_row hre3 (by omega)]; exact (elm_shp hs2 hlt).2 p hp
        by_cases hlt3 : j < i
        · by_cases hjc : j = c
          · refine WC.seq fun K hK => ?_
            refine WC.region rfl ?_
            refine wG rfl rfl (g_lt rfl (.mk rfl rfl) (.mk rfl rfl) (decide_eq_true (by omega))) ?_
            refine WL.nil ?_
            (refine hK _ _ ?_; clear hK)
            refine WC.seq fun K hK => ?_
            refine WC.cond_true (.mk rfl rfl) ?_
            refine WC.skip ?_
            (refine hK _ _ ?_; clear hK)
            refine WC.seq fun K hK => ?_
            refine WC.block ?_
            refine WC.seq fun K hK => ?_
            refine WC.region rfl ?_
            refine wG rfl rfl (g_move rfl (.mk (v := .int _ _) rfl rfl)) ?_
            refine wG rfl rfl (g_assign rfl (.mk (v := .int _ _) rfl rfl)) ?_
            refine WL.nil ?_
            (refine hK _ _ ?_; clear hK)
            refine WC.seq fun K hK => ?_
            refine WC.region rfl ?_
            refine wG rfl rfl (g_move rfl (.mk (v := .int _ _) rfl rfl)) ?_
            refine wG rfl rfl (g_load rfl (.mk rfl rfl) rfl (rd_pt (.tail _ (.tail _ (.head _))) rfl)) ?_
            refine wG rfl rfl (g_ne rfl (.mk rfl rfl) (.mk rfl rfl) (decide_eq_false (by omega))) ?_
            refine WL.nil ?_
            (refine hK _ _ ?_; clear hK)
            refine WC.cond_false (.mk rfl rfl) ?_
            refine WC.skip ?_
            (refine hK _ _ ?_; clear hK)
            refine WC.region rfl ?_
            refine wG rfl rfl (g_add rfl (.mk rfl rfl) (.mk rfl rfl) (IntWalk.i64_in _ (by omega))) ?_
            refine wG rfl rfl (g_move rfl (.mk (v := .int _ _) rfl rfl)) ?_
            refine WL.nil ?_
            exact ⟨j + 1, r3, (by repeat (first | with_reducible exact Out.refl _ _ | refine Out.set rfl ?_ | refine Out.put rfl ?_ | refine Out.sets rfl ?_ | refine Out.hav rfl ?_ | exact Out.refl _ _)), ⟨rfl, trivial⟩, .refl _, ⟨by omega, hrl3, by rw [hre3]; exact elm_skip hjc⟩, by omega⟩
          · have hc1 : (r3.map Row.v)[c * 1]? = some (nth r3 c).v := get1 (by omega)
            have hc2 : ∀ x, ((r3.map Row.v).set (j * 1) x)[c * 1]? = some (nth r3 c).v := fun x => by rw [List.getElem?_set_ne (by omega)]; exact hc1
            have hrj := hrow4 j hlt3
            have hrcc := hrow4 c hlt
            obtain ⟨f, hf⟩ : ∃ f, f = gfused (nth r3 j).l (nth r3 c).l (nth (nth r3 j).l c) := ⟨_, rfl⟩
            have hfl : f.length = (nth r3 j).l.length := by rw [hf, gfused_length _ _ _ (by omega)]
            have hfa : f = gfused (nth a2 j) (nth a2 c) (el a2 j c) := by
              have e1 : (nth r3 j).l = nth a2 j := by rw [els_row hre3 (by omega), elm_row hlt3, if_neg (by omega)]
              have e2 : (nth r3 c).l = nth a2 c := by rw [els_row hre3 (by omega), elm_row hlt, if_neg (by omega)]
              rw [hf, e1, e2]; rfl
            have hfn : ∀ (v1 v2 : Value) (w' : World), Sl w' 1 v1 (nth r3 j).l.length (bvs (nth r3 j).l) → Sl w' 1 v2 (nth r3 c).l.length (bvs (nth r3 c).l) → Calls Try.prog 104 #[v1, v2, bv (nth (nth r3 j).l c)] w' fun e w2 => ∃ v M, e = .returned v ∧ H w' M w2 ∧ ∃ A cc, v = .tuple #[.slice A (nth r3 j).l.length cc, iv 0] ∧ M = [vec A (nth r3 j).l.length cc 5 1 (bvs f)] := fun v1 v2 w' h1 h2 => by
              have := fused_n v1 v2 (nth r3 j).l (nth r3 c).l (nth (nth r3 j).l c) w' h1 h2 (by omega) (by omega)
              rwa [← hf] at this
            have hmapl3 : (r3.map Row.v).length = i := by rw [List.length_map, hrl3]
            refine WC.seq fun K hK => ?_
            refine WC.region rfl ?_
            refine wG rfl rfl (g_lt rfl (.mk rfl rfl) (.mk rfl rfl) (decide_eq_true (by omega))) ?_
            refine WL.nil ?_
            (refine hK _ _ ?_; clear hK)
            refine WC.seq fun K hK => ?_
            refine WC.cond_true (.mk rfl rfl) ?_
            refine WC.skip ?_
            (refine hK _ _ ?_; clear hK)
            refine WC.seq fun K hK => ?_
            refine WC.block ?_
            refine WC.seq fun K hK => ?_
            refine WC.region rfl ?_
            refine wG rfl rfl (g_move rfl (.mk (v := .int _ _) rfl rfl)) ?_
            refine wG rfl rfl (g_assign rfl (.mk (v := .int _ _) rfl rfl)) ?_
            refine WL.nil ?_
            (refine hK _ _ ?_; clear hK)
            refine WC.seq fun K hK => ?_
            refine WC.region rfl ?_
            refine wG rfl rfl (g_move rfl (.mk (v := .int _ _) rfl rfl)) ?_
            refine wG rfl rfl (g_load rfl (.mk rfl rfl) rfl (rd_pt (.tail _ (.tail _ (.head _))) rfl)) ?_
            refine wG rfl rfl (g_ne rfl (.mk rfl rfl) (.mk rfl rfl) (decide_eq_true (by omega))) ?_
            refine WL.nil ?_
            (refine hK _ _ ?_; clear hK)
            refine WC.cond_true (.mk rfl rfl) ?_
            refine WC.held [cellA Ao (c * 1) (nth r3 c).v, rowsA r3, pt b8 3 [iv c]] rfl (by kernel_rfl) ?_
            refine WH.take 0 rfl (by decide +kernel) (by decide +kernel) (by decide +kernel) rfl rfl (by repeat (first | exact Imp.nil _ | apply Imp.cons | (refine Imp.cellc (by first | exact hc1 | exact hc2 _) ?_) | apply Imp.skip)) (g_move rfl (.mk (v := .slice _ _ _) rfl rfl)) ?_
            refine WH.take 1 rfl (by decide +kernel) (by decide +kernel) (by decide +kernel) rfl rfl (by repeat (first | exact Imp.nil _ | apply Imp.cons | (refine Imp.cellc (by first | exact hc1 | exact hc2 _) ?_) | apply Imp.skip)) (g_move rfl (.mk (v := .int _ _) rfl rfl)) ?_
            refine WH.take 2 rfl (by decide +kernel) (by decide +kernel) (by decide +kernel) rfl rfl (by repeat (first | exact Imp.nil _ | apply Imp.cons | (refine Imp.cellc (by first | exact hc1 | exact hc2 _) ?_) | apply Imp.skip)) (g_move rfl (.mk (v := .slice _ _ _) rfl rfl)) ?_
            refine WH.take 3 rfl (by decide +kernel) (by decide +kernel) (by decide +kernel) rfl rfl (by repeat (first | exact Imp.nil _ | apply Imp.cons | (refine Imp.cellc (by first | exact hc1 | exact hc2 _) ?_) | apply Imp.skip)) (g_move rfl (.mk (v := .int _ _) rfl rfl)) ?_
            refine WH.take 4 rfl (by decide +kernel) (by decide +kernel) (by decide +kernel) rfl rfl (by repeat (first | exact Imp.nil _ | apply Imp.cons | (refine Imp.cellc (by first | exact hc1 | exact hc2 _) ?_) | apply Imp.skip)) (g_indexAddr (sz := 1) rfl (.mk rfl rfl) (.mk rfl rfl) rfl rfl rfl (by omega) (fun _ _ => hAo)) ?_
            refine WH.take 6 rfl (by decide +kernel) (by decide +kernel) (by decide +kernel) rfl rfl (by repeat (first | exact Imp.nil _ | apply Imp.cons | (refine Imp.cellc (by first | exact hc1 | exact hc2 _) ?_) | apply Imp.skip)) (g_move rfl (.mk (v := .slice _ _ _) rfl rfl)) ?_
            refine WH.take 7 rfl (by decide +kernel) (by decide +kernel) (by decide +kernel) rfl rfl (by repeat (first | exact Imp.nil _ | apply Imp.cons | (refine Imp.cellc (by first | exact hc1 | exact hc2 _) ?_) | apply Imp.skip)) (g_load rfl (.mk rfl rfl) rfl (rd_pt (.tail _ (.tail _ (.head _))) rfl)) ?_
            refine WH.take 8 rfl (by decide +kernel) (by decide +kernel) (by decide +kernel) rfl rfl (by repeat (first | exact Imp.nil _ | apply Imp.cons | (refine Imp.cellc (by first | exact hc1 | exact hc2 _) ?_) | apply Imp.skip)) (g_indexAddr (sz := 1) rfl (.mk rfl rfl) (.mk rfl rfl) rfl rfl rfl (by omega) (fun _ _ => hAo)) ?_
            refine WH.take 9 rfl (by decide +kernel) (by decide +kernel) (by decide +kernel) rfl rfl (by repeat (first | exact Imp.nil _ | apply Imp.cons | (refine Imp.cellc (by first | exact hc1 | exact hc2 _) ?_) | apply Imp.skip)) (g_load rfl (.mk rfl rfl) rfl (rd_cellA (.head _))) ?_
            refine WH.take 10 rfl (by decide +kernel) (by decide +kernel) (by decide +kernel) rfl rfl (by repeat (first | exact Imp.nil _ | apply Imp.cons | (refine Imp.cellc (by first | exact hc1 | exact hc2 _) ?_) | apply Imp.skip)) (g_move rfl (.mk (v := .slice _ _ _) rfl rfl)) ?_
            refine WH.take 11 rfl (by decide +kernel) (by decide +kernel) (by decide +kernel) rfl rfl (by repeat (first | exact Imp.nil _ | apply Imp.cons | (refine Imp.cellc (by first | exact hc1 | exact hc2 _) ?_) | apply Imp.skip)) (g_move rfl (.mk (v := .int _ _) rfl rfl)) ?_
            refine WH.take 12 rfl (by decide +kernel) (by decide +kernel) (by decide +kernel) rfl rfl (by repeat (first | exact Imp.nil _ | apply Imp.cons | (refine Imp.cellc (by first | exact hc1 | exact hc2 _) ?_) | apply Imp.skip)) (g_indexAddr (sz := 1) rfl (.mk rfl rfl) (.mk rfl rfl) rfl rfl rfl (by omega) (fun _ _ => hAo)) ?_
            refine WH.take 14 rfl (by decide +kernel) (by decide +kernel) (by decide +kernel) rfl rfl (by repeat (first | exact Imp.nil _ | apply Imp.cons | (refine Imp.cellc (by first | exact hc1 | exact hc2 _) ?_) | apply Imp.skip)) (g_load rfl (.mk rfl rfl) rfl (rd_pt (.tail _ (.tail _ (.head _))) rfl)) ?_
            refine WH.two 5 13 (by decide +kernel) rfl rfl rfl rfl ?_ ?_
            refine WL1.give rfl (g_load rfl (.mk rfl rfl) rfl (rd_vec (.head _) (get1 (by omega)))) ?_
            refine WL.nil ?_
            refine ⟨(by repeat (first | exact Imp.nil _ | apply Imp.cons | (refine Imp.cellc (by first | exact hc1 | exact hc2 _) ?_) | apply Imp.skip)), ?_⟩
            refine WH.one 13 (by decide +kernel) rfl rfl ?_
            refine WL1.give rfl (g_load rfl (.mk rfl rfl) rfl (rd_vec (.head _) (get1 (by omega)))) ?_
            refine WL.nil ?_
            refine ⟨(by repeat (first | exact Imp.nil _ | apply Imp.cons | (refine Imp.cellc (by first | exact hc1 | exact hc2 _) ?_) | apply Imp.skip)), ?_⟩
            refine WH.take 15 rfl (by decide +kernel) (by decide +kernel) (by decide +kernel) rfl rfl (by repeat (first | exact Imp.nil _ | apply Imp.cons | (refine Imp.cellc (by first | exact hc1 | exact hc2 _) ?_) | apply Imp.skip)) (g_indexAddr (sz := 1) rfl (.mk rfl rfl) (.mk rfl rfl) rfl rfl rfl (by omega) (rowA_some (.tail _ (.head _)) (by omega) (by omega))) ?_
            refine WH.take 16 rfl (by decide +kernel) (by decide +kernel) (by decide +kernel) rfl rfl (by repeat (first | exact Imp.nil _ | apply Imp.cons | (refine Imp.cellc (by first | exact hc1 | exact hc2 _) ?_) | apply Imp.skip)) (g_load rfl (.mk rfl rfl) rfl (rd_rowA (.tail _ (.head _)) (by omega) (by omega))) ?_
            refine WH.one 17 (by decide +kernel) rfl rfl ?_
            (refine WL1.callN rfl rfl rfl (.cons (.mk (v := .slice _ _ _) rfl rfl) (.cons (.mk (v := .slice _ _ _) rfl rfl) (.cons (.mk (v := .int _ _) rfl rfl) .nil))) (fun w hw => hfn _ _ w (Sl.of_rowA hw (by repeat (first | exact .head _ | apply List.Mem.tail)) (by omega)) (Sl.of_rowA hw (by repeat (first | exact .head _ | apply List.Mem.tail)) (by omega))) ?_; rintro _ _ ⟨Af, cf, rfl, rfl⟩)
            refine WL.nil ?_
            refine ⟨(by repeat (first | exact Imp.nil _ | apply Imp.cons | (refine Imp.cellc (by first | exact hc1 | exact hc2 _) ?_) | apply Imp.skip)), ?_⟩
            refine WH.take 18 rfl (by decide +kernel) (by decide +kernel) (by decide +kernel) rfl rfl (by repeat (first | exact Imp.nil _ | apply Imp.cons | (refine Imp.cellc (by first | exact hc1 | exact hc2 _) ?_) | apply Imp.skip)) (g_move rfl (.mk (v := .tuple _) rfl rfl)) ?_
            refine WH.take 19 rfl (by decide +kernel) (by decide +kernel) (by decide +kernel) rfl rfl (by repeat (first | exact Imp.nil _ | apply Imp.cons | (refine Imp.cellc (by first | exact hc1 | exact hc2 _) ?_) | apply Imp.skip)) (g_extract rfl (.mk rfl rfl) rfl) ?_
            refine WH.take 20 rfl (by decide +kernel) (by decide +kernel) (by decide +kernel) rfl rfl (by repeat (first | exact Imp.nil _ | apply Imp.cons | (refine Imp.cellc (by first | exact hc1 | exact hc2 _) ?_) | apply Imp.skip)) (g_extract rfl (.mk rfl rfl) rfl) ?_
            refine WH.take 21 rfl (by decide +kernel) (by decide +kernel) (by decide +kernel) rfl rfl (by repeat (first | exact Imp.nil _ | apply Imp.cons | (refine Imp.cellc (by first | exact hc1 | exact hc2 _) ?_) | apply Imp.skip)) (g_indexAddr (sz := 1) rfl (.mk rfl rfl) (.mk rfl rfl) rfl rfl rfl (by omega) (fun _ _ => hAo)) ?_
            refine WH.one 22 (by decide +kernel) rfl rfl ?_
            refine WL1.storeV1 rfl rfl (.mk rfl rfl) (.mk (v := .slice _ _ _) rfl rfl) rfl rfl (by first | omega | (simp; done) | (simp; omega)) (.tail (.head)) ?_
            refine WL.nil ?_
            refine ⟨(by repeat (first | exact Imp.nil _ | apply Imp.cons | (refine Imp.cellc (by first | exact hc1 | exact hc2 _) ?_) | apply Imp.skip)), ?_⟩
            refine WH.done (by decide +kernel) ?_
            (refine hK _ _ ?_; clear hK)
            refine WC.region rfl ?_
            refine wG rfl rfl (g_add rfl (.mk rfl rfl) (.mk rfl rfl) (IntWalk.i64_in _ (by omega))) ?_
            refine wG rfl rfl (g_move rfl (.mk (v := .int _ _) rfl rfl)) ?_
            refine WL.nil ?_
            rotate_left
            refine WL1.give rfl (g_load rfl (.mk rfl rfl) rfl (rd_vec (.head _) (get1 (by omega)))) ?_
            refine WL.nil ?_
            refine ⟨(by repeat (first | exact Imp.nil _ | apply Imp.cons | (refine Imp.cellc (by first | exact hc1 | exact hc2 _) ?_) | apply Imp.skip)), ?_⟩
            refine WH.take 15 rfl (by decide +kernel) (by decide +kernel) (by decide +kernel) rfl rfl (by repeat (first | exact Imp.nil _ | apply Imp.cons | (refine Imp.cellc (by first | exact hc1 | exact hc2 _) ?_) | apply Imp.skip)) (g_indexAddr (sz := 1) rfl (.mk rfl rfl) (.mk rfl rfl) rfl rfl rfl (by omega) (rowA_some (.tail _ (.head _)) (by omega) (by omega))) ?_
            refine WH.take 16 rfl (by decide +kernel) (by decide +kernel) (by decide +kernel) rfl rfl (by repeat (first | exact Imp.nil _ | apply Imp.cons | (refine Imp.cellc (by first | exact hc1 | exact hc2 _) ?_) | apply Imp.skip)) (g_load rfl (.mk rfl rfl) rfl (rd_rowA (.tail _ (.head _)) (by omega) (by omega))) ?_
            refine WH.one 5 (by decide +kernel) rfl rfl ?_
            refine WL1.give rfl (g_load rfl (.mk rfl rfl) rfl (rd_vec (.head _) (get1 (by omega)))) ?_
            refine WL.nil ?_
            refine ⟨(by repeat (first | exact Imp.nil _ | apply Imp.cons | (refine Imp.cellc (by first | exact hc1 | exact hc2 _) ?_) | apply Imp.skip)), ?_⟩
            refine WH.one 17 (by decide +kernel) rfl rfl ?_
            (refine WL1.callN rfl rfl rfl (.cons (.mk (v := .slice _ _ _) rfl rfl) (.cons (.mk (v := .slice _ _ _) rfl rfl) (.cons (.mk (v := .int _ _) rfl rfl) .nil))) (fun w hw => hfn _ _ w (Sl.of_rowA hw (by repeat (first | exact .head _ | apply List.Mem.tail)) (by omega)) (Sl.of_rowA hw (by repeat (first | exact .head _ | apply List.Mem.tail)) (by omega))) ?_; rintro _ _ ⟨Af, cf, rfl, rfl⟩)
            refine WL.nil ?_
            refine ⟨(by repeat (first | exact Imp.nil _ | apply Imp.cons | (refine Imp.cellc (by first | exact hc1 | exact hc2 _) ?_) | apply Imp.skip)), ?_⟩
            refine WH.take 18 rfl (by decide +kernel) (by decide +kernel) (by decide +kernel) rfl rfl (by repeat (first | exact Imp.nil _ | apply Imp.cons | (refine Imp.cellc (by first | exact hc1 | exact hc2 _) ?_) | apply Imp.skip)) (g_move rfl (.mk (v := .tuple _) rfl rfl)) ?_
            refine WH.take 19 rfl (by decide +kernel) (by decide +kernel) (by decide +kernel) rfl rfl (by repeat (first | exact Imp.nil _ | apply Imp.cons | (refine Imp.cellc (by first | exact hc1 | exact hc2 _) ?_) | apply Imp.skip)) (g_extract rfl (.mk rfl rfl) rfl) ?_
            refine WH.take 20 rfl (by decide +kernel) (by decide +kernel) (by decide +kernel) rfl rfl (by repeat (first | exact Imp.nil _ | apply Imp.cons | (refine Imp.cellc (by first | exact hc1 | exact hc2 _) ?_) | apply Imp.skip)) (g_extract rfl (.mk rfl rfl) rfl) ?_
            refine WH.take 21 rfl (by decide +kernel) (by decide +kernel) (by decide +kernel) rfl rfl (by repeat (first | exact Imp.nil _ | apply Imp.cons | (refine Imp.cellc (by first | exact hc1 | exact hc2 _) ?_) | apply Imp.skip)) (g_indexAddr (sz := 1) rfl (.mk rfl rfl) (.mk rfl rfl) rfl rfl rfl (by omega) (fun _ _ => hAo)) ?_
            refine WH.one 22 (by decide +kernel) rfl rfl ?_
            refine WL1.storeV1 rfl rfl (.mk rfl rfl) (.mk (v := .slice _ _ _) rfl rfl) rfl rfl (by first | omega | (simp; done) | (simp; omega)) (.tail (.head)) ?_
            refine WL.nil ?_
            refine ⟨(by repeat (first | exact Imp.nil _ | apply Imp.cons | (refine Imp.cellc (by first | exact hc1 | exact hc2 _) ?_) | apply Imp.skip)), ?_⟩
            refine WH.done (by decide +kernel) ?_
            (refine hK _ _ ?_; clear hK)
            refine WC.region rfl ?_
            refine wG rfl rfl (g_add rfl (.mk rfl rfl) (.mk rfl rfl) (IntWalk.i64_in _ (by omega))) ?_
            refine wG rfl rfl (g_move rfl (.mk (v := .int _ _) rfl rfl)) ?_
            refine WL.nil ?_
            rotate_left
            · refine ⟨j + 1, r3.set j ⟨Af, cf, f⟩, (by repeat (first | with_reducible exact Out.refl _ _ | refine Out.set rfl ?_ | refine Out.put rfl ?_ | refine Out.sets rfl ?_ | refine Out.hav rfl ?_ | exact Out.refl _ _)), ⟨rfl, trivial⟩, ?_, ⟨by omega, by rw [List.length_set, hrl3], by rw [els_set, hre3, hfa]; exact elm_set hlt3 hjc⟩, by omega⟩
              rw [rowsv_set, Nat.mul_one j, v_of hfl, own_of hfl]
              exact Imp.put2 (by repeat (first | exact .head | apply Take.tail)) (by repeat (first | exact .head | apply Swap.tail)) (by omega)
            · refine ⟨j + 1, r3.set j ⟨Af, cf, f⟩, (by repeat (first | with_reducible exact Out.refl _ _ | refine Out.set rfl ?_ | refine Out.put rfl ?_ | refine Out.sets rfl ?_ | refine Out.hav rfl ?_ | exact Out.refl _ _)), ⟨rfl, trivial⟩, ?_, ⟨by omega, by rw [List.length_set, hrl3], by rw [els_set, hre3, hfa]; exact elm_set hlt3 hjc⟩, by omega⟩
              rw [rowsv_set, Nat.mul_one j, v_of hfl, own_of hfl]
              exact Imp.put2 (by repeat (first | exact .head | apply Take.tail)) (by repeat (first | exact .head | apply Swap.tail)) (by omega)
        · obtain rfl : j = i := by omega
          refine WC.seq fun K hK => ?_
          refine WC.region rfl ?_
          refine wG rfl rfl (g_lt rfl (.mk rfl rfl) (.mk rfl rfl) (decide_eq_false (by omega))) ?_
          refine WL.nil ?_
          (refine hK _ _ ?_; clear hK)
          refine WC.seq fun K hK => ?_
          refine WC.cond_false (.mk rfl rfl) ?_
          refine WC.exit ?_
          (clear hK; refine hK _ _ ?_; clear hK)
          refine WC.region rfl ?_
          refine wG rfl rfl (g_add rfl (.mk rfl rfl) (.mk rfl rfl) (IntWalk.i64_in _ (by omega))) ?_
          refine wG rfl rfl (g_move rfl (.mk (v := .int _ _) rfl rfl)) ?_
          refine WL.nil ?_
          exact ⟨c + 1, stp a j c q, r3, (by repeat (first | with_reducible exact Out.refl _ _ | refine Out.set rfl ?_ | refine Out.put rfl ?_ | refine Out.sets rfl ?_ | refine Out.hav rfl ?_ | exact Out.refl _ _)), ⟨rfl, trivial⟩, Imp.sub (.cons_cons _ (.cons_cons _ (.cons _ (.refl _)))), ⟨by omega, hrl3, by rw [hre3, hst], hI2, hgj⟩, by omega⟩
    · obtain rfl : c = i := by omega
      subst hn
      obtain ⟨N, hN⟩ : ∃ N, N = ra.length := ⟨_, rfl⟩
      have hfin : gjr ra.length ra.length (aug m ra.length) = some a := by rw [hgj, Nat.sub_self]; rfl
      have hvv : invM (els ra) = some (a.map (List.drop ra.length)) := by rw [hinv, hfin]; rfl
      have hrow2 : ∀ q, q < ra.length → (nth rs q).l.length = 2 * ra.length := fun q hq => by rw [els_row hre (by omega)]; exact hI.shp.2 q hq
      have hal : (a.map (List.drop ra.length)).length = ra.length := by rw [List.length_map, hI.shp.1]
      refine WC.seq fun K hK => ?_
      refine WC.region rfl ?_
      refine wG rfl rfl (g_lt rfl (.mk rfl rfl) (.mk rfl rfl) (decide_eq_false (by omega))) ?_
      refine WL.nil ?_
      (refine hK _ _ ?_; clear hK)
      refine WC.seq fun K hK => ?_
      refine WC.cond_false (.mk rfl rfl) ?_
      refine WC.exit ?_
      (clear hK; refine hK _ _ ?_; clear hK)
      refine WC.seq fun K hK => ?_
      refine WC.region rfl ?_
      refine wG rfl rfl (g_move rfl (.mk (v := .int _ _) rfl rfl)) ?_
      refine WL.want rfl (WL1.make elR rfl rfl (.mk rfl rfl) (.mk rfl rfl) rfl rfl (by omega) (by unfold maxLen; omega) (fun b143 => ?_))
      refine wG rfl rfl (g_assign rfl (.mk (v := .slice _ _ _) rfl rfl)) ?_
      refine WL.nil ?_
      (refine hK _ _ ?_; clear hK)
      refine WC.seq fun K hK => ?_
      refine WC.seq fun K hK => ?_
      refine WC.region rfl ?_
      refine wG rfl rfl (g_move rfl (.mk (v := .slice _ _ _) rfl rfl)) ?_
      refine wG rfl rfl (g_len rfl (.mk rfl rfl) rfl) ?_
      refine wG rfl rfl (g_move rfl (.mk (v := .int _ _) rfl rfl)) ?_
      refine WL.nil ?_
      (refine hK _ _ ?_; clear hK)
      refine WC.block ?_
      refine WC.loopI2 (1461412434350108795711118689843192426209908637696) (fun (k : Nat) (ro : List Row) => [(146, iv k)]) (fun k ro => [rowsA ro, vec (some ⟨b143, 0, none⟩) ra.length ra.length 111 1 (ro.map Row.v ++ List.replicate (ra.length - k) (Value.slice none 0 0)), vec Ao r0.length co 111 1 (rs.map Row.v), rowsA rs]) (fun k ro => k ≤ ra.length ∧ ro.length = k ∧ els ro = (a.map (List.drop ra.length)).take k) (fun k _ => ra.length - k) 0 [] ⟨rfl, trivial⟩ ?_ ⟨by omega, rfl, rfl⟩ ?_
      · rw [show (Value.slice none 0 0).cells = #[.slice none 0 0] from rfl, made_one]
        exact Imp.rows_nil _
      · rintro k ro U5 ⟨hk, hkl, hke⟩
        have hol : (ro.map Row.v ++ List.replicate (ra.length - k) (Value.slice none 0 0)).length = ra.length := by simp; omega
        by_cases hlt5 : k < ra.length
        · have hrk := hrow2 k hlt5
          refine WC.learn (fun w hw => rowA_cap (k := k) hw (.tail _ (.tail _ (.tail _ (.head _)))) (by omega)) fun hcap => ?_
          have hdl : ((nth rs k).l.drop ra.length).length = (nth rs k).l.length - ra.length := by rw [List.length_drop]
          refine WC.seq fun K hK => ?_
          refine WC.region rfl ?_
          refine wG rfl rfl (g_lt rfl (.mk rfl rfl) (.mk rfl rfl) (decide_eq_true (by omega))) ?_
          refine WL.nil ?_
          (refine hK _ _ ?_; clear hK)
          refine WC.seq fun K hK => ?_
          refine WC.cond_true (.mk rfl rfl) ?_
          refine WC.skip ?_
          (refine hK _ _ ?_; clear hK)
          refine WC.seq fun K hK => ?_
          refine WC.block ?_
          refine WC.seq fun K hK => ?_
          refine WC.region rfl ?_
          refine wG rfl rfl (g_move rfl (.mk (v := .int _ _) rfl rfl)) ?_
          refine wG rfl rfl (g_assign rfl (.mk (v := .int _ _) rfl rfl)) ?_
          refine WL.nil ?_
          (refine hK _ _ ?_; clear hK)
          refine WC.region rfl ?_
          refine wG rfl rfl (g_move rfl (.mk (v := .slice _ _ _) rfl rfl)) ?_
          refine wG rfl rfl (g_move rfl (.mk (v := .int _ _) rfl rfl)) ?_
          refine wG rfl rfl (g_move rfl (.mk (v := .slice _ _ _) rfl rfl)) ?_
          refine wG rfl rfl (g_move rfl (.mk (v := .int _ _) rfl rfl)) ?_
          refine wG rfl rfl (g_indexAddr (sz := 1) rfl (.mk rfl rfl) (.mk rfl rfl) rfl rfl rfl (by omega) (fun w hw => vec_some hw (.tail _ (.tail _ (.head _))) (by omega))) ?_
          refine wG rfl rfl (g_load rfl (.mk rfl rfl) rfl (rd_vec (.tail _ (.tail _ (.head _))) (get1 (by omega)))) ?_
          refine wG rfl rfl (g_move rfl (.mk (v := .int _ _) rfl rfl)) ?_
          refine wG rfl rfl (g_slice (sz := 1) (kh := .i64) (q := 0) rfl (.mk rfl rfl) rfl rfl ⟨(.mk rfl rfl), rfl⟩ rfl (by omega) (by omega)) ?_
          (refine WL.want rfl (WL1.callN rfl rfl rfl (.cons (.mk (v := .slice _ _ _) rfl rfl) .nil) (fun w hw => cloneb_n _ ((nth rs k).l.drop ra.length) w (Sl.drop_row (Sl.of_rowA (k := k) hw (.tail _ (.tail _ (.tail _ (.head _)))) (by omega)) rfl (by omega)) (by omega) (by omega)) ?_); rintro _ _ ⟨Ak, ck, rfl, rfl⟩)
          refine wG rfl rfl (g_indexAddr (sz := 1) rfl (.mk rfl rfl) (.mk rfl rfl) rfl rfl rfl (by omega) (fun _ _ => rfl)) ?_
          refine WL.want rfl (WL1.storeV1 rfl rfl (.mk rfl rfl) (.mk (v := .slice _ _ _) rfl rfl) rfl rfl (by first | omega | (simp; done) | (simp; omega)) (.tail (.tail (.head))) ?_)
          refine WL.nil ?_
          (refine hK _ _ ?_; clear hK)
          refine WC.region rfl ?_
          refine wG rfl rfl (g_add rfl (.mk rfl rfl) (.mk rfl rfl) (IntWalk.i64_in _ (by omega))) ?_
          refine wG rfl rfl (g_move rfl (.mk (v := .int _ _) rfl rfl)) ?_
          refine WL.nil ?_
          refine ⟨k + 1, ro ++ [⟨Ak, ck, (nth rs k).l.drop ra.length⟩], (by repeat (first | with_reducible exact Out.refl _ _ | refine Out.set rfl ?_ | refine Out.put rfl ?_ | refine Out.sets rfl ?_ | refine Out.hav rfl ?_ | exact Out.refl _ _)), ⟨rfl, trivial⟩, ?_, ⟨by omega, by rw [List.length_append, hkl]; rfl, ?_⟩, by omega⟩
          · rw [← nilrow_set ro ⟨Ak, ck, (nth rs k).l.drop ra.length⟩ hkl hlt5 rfl]
            exact Imp.add2 (rs := ro) (r := ⟨Ak, ck, (nth rs k).l.drop ra.length⟩) (by repeat (first | exact .head | apply Take.tail)) (by repeat (first | exact .head | apply Swap.tail))
          · rw [els_add, hke, take_succ_nth (by omega), nth_map _ (by rw [hI.shp.1]; exact hlt5), ← hre, els_at (by omega)]
        · obtain rfl : k = ra.length := by omega
          refine WC.seq fun K hK => ?_
          refine WC.region rfl ?_
          refine wG rfl rfl (g_lt rfl (.mk rfl rfl) (.mk rfl rfl) (decide_eq_false (by omega))) ?_
          refine WL.nil ?_
          (refine hK _ _ ?_; clear hK)
          refine WC.seq fun K hK => ?_
          refine WC.cond_false (.mk rfl rfl) ?_
          refine WC.exit ?_
          (clear hK; refine hK _ _ ?_; clear hK)
          refine WC.seq fun K hK => ?_
          refine WC.region rfl ?_
          refine wG rfl rfl (g_move rfl (.mk (v := .slice _ _ _) rfl rfl)) ?_
          refine wG rfl rfl (g_assign rfl (.mk (v := .slice _ _ _) rfl rfl)) ?_
          refine wG rfl rfl (g_assign rfl (.mk (v := .int _ _) rfl rfl)) ?_
          refine WL.nil ?_
          (refine hK _ _ ?_; clear hK)
          refine WC.ret ?_
          refine fun w' hw' => ⟨_, matM (some ⟨b143, 0, none⟩) ro.length ro, rfl, ?_, .inr ⟨some ⟨b143, 0, none⟩, ro.length, ro, by rw [hkl]; rfl, rfl, by rw [hvv, hke, List.take_of_length_le (by omega)], hkl⟩⟩
          have := ((Imp.sub (.cons_cons _ (.cons_cons _ (List.nil_sublist _)))).trans (Imp.perm (.swap _ _ _))).h hw'
          rw [Nat.sub_self, List.replicate_zero, List.append_nil] at this
          unfold matM
          rw [hkl]; exact this
theorem inverse_n (va : Value) (ra : List Row) (v : List (List G)) (w : World) (ha : MatAt w va ra) (hg : Good (els ra)) (hsq : (nth ra 0).l.length = ra.length) (hv : invM (els ra) = some v) :
    Calls Try.prog 93 #[va] w fun e w' => ∃ v' M, e = .returned v' ∧ H w M w' ∧ ∃ A cc rs, v' = .tuple #[.slice A rs.length cc, iv 0] ∧ M = matM A cc rs ∧ els rs = v ∧ rs.length = ra.length :=
  (inverse_c va ra w ha hg hsq).mono fun e w' ⟨v', M, he, hH, h⟩ => ⟨v', M, he, hH, by
    rcases h with ⟨h1, _⟩ | ⟨A, cc, rs, h1, h2, h3, h4⟩
    · rw [hv] at h1; cases h1
    · rw [hv] at h3
      injection h3 with h3
      exact ⟨A, cc, rs, h1, h2, h3.symm, h4⟩⟩
end Go.Proofs.Ytnkbnponpknokaa
namespace Go.Proofs.Ytnkbnponpknokaa
set_option maxRecDepth 20000
open Go.RowKit
def rowsM (m : List (List G)) (sel : List Nat) : List (List G) := sel.map fun k => nth m k
theorem rowsM_len (m : List (List G)) (sel : List Nat) : (rowsM m sel).length = sel.length := by simp [rowsM]
theorem rowsM_at {m : List (List G)} {sel : List Nat} {k : Nat} (h : k < sel.length) : nth (rowsM m sel) k = nth m (nth sel k) := nth_map _ h
theorem MatAt.some {w0 w : World} {L : List Asrt} {va : Value} {ra : List Row} {sel : List Nat} {A : Option Addr} {c : Nat} (ha : MatAt w va ra) (hsel : ∀ k, k < sel.length → nth sel k < ra.length) (hw : H w0 L w) (hm : vec A sel.length c 111 1 ((sel.map fun k => nth ra k).map Row.v) ∈ L) : MatAt w (.slice A sel.length c) (sel.map fun k => nth ra k) := by
  have h := Sl.of_vec hw hm
  refine ⟨by rw [List.length_map]; exact h, fun r hr => ?_⟩
  obtain ⟨k, hk, rfl⟩ := List.mem_map.1 hr
  obtain ⟨i, hi, rfl⟩ := List.getElem_of_mem hk
  have := hsel i hi
  rw [nth_eq hi] at this
  exact ha.row this
theorem els_some (ra : List Row) (sel : List Nat) (hsel : ∀ k, k < sel.length → nth sel k < ra.length) : els (sel.map fun k => nth ra k) = rowsM (els ra) sel := by
  unfold els rowsM
  rw [List.map_map]
  refine List.map_congr_left fun k hk => ?_
  obtain ⟨i, hi, rfl⟩ := List.getElem_of_mem hk
  have := hsel i hi
  rw [nth_eq hi] at this
  exact (els_at this).symm
end Go.Proofs.Ytnkbnponpknokaa
namespace Go.Proofs.Ytnkbnponpknokaa
set_option maxRecDepth 20000
open Go.RowKit
/-! ### Sums -/
def bsum : Nat → (Nat → Blk) → Blk
  | 0, _ => 0
  | n + 1, f => bsum n f + f n
theorem bsum_congr {n : Nat} {f g : Nat → Blk} (h : ∀ k, k < n → f k = g k) : bsum n f = bsum n g := by
  induction n with
  | zero => rfl
  | succ n ih => rw [bsum, bsum, ih fun k hk => h k (by omega), h n (by omega)]
theorem bsum_add (n : Nat) (f g : Nat → Blk) : bsum n (fun k => f k + g k) = bsum n f + bsum n g := by
  induction n with
  | zero => exact (Blk.add_zero 0).symm
  | succ n ih => rw [bsum, bsum, bsum, ih]; ac_rfl
theorem bsum_zero {n : Nat} {f : Nat → Blk} (h : ∀ k, k < n → f k = 0) : bsum n f = 0 := by
  induction n with
  | zero => rfl
  | succ n ih => rw [bsum, ih fun k hk => h k (by omega), h n (by omega), Blk.add_zero]
theorem bsum_take {n a : Nat} (ha : a < n) (f : Nat → Blk) : bsum n f = f a + bsum n (fun k => if k = a then 0 else f k) := by
  induction n with
  | zero => omega
  | succ n ih =>
    rw [bsum, bsum]
    by_cases h : a = n
    · subst h
      rw [if_pos rfl, Blk.add_zero, Blk.add_comm]
      congr 1
      exact bsum_congr fun k hk => by rw [if_neg (by omega)]
    · rw [ih (by omega), if_neg (by omega), Blk.add_assoc]
/-! ### Linearity -/
def addL (a b : List Blk) : List Blk := (List.range a.length).map fun i => nth a i + nth b i
def mulL (c : G) (a : List Blk) : List Blk := a.map fun x => c * x
theorem rs_bsum (c : G) (ds : List Blk) (n : Nat) : rs c ds n = bsum n (fun i => gpow c i * nth ds i) := by
  induction n with
  | zero => rfl
  | succ n ih => rw [rs, bsum, ih]
theorem hor_bsum (c : G) (ds : List Blk) : hor c ds = bsum ds.length (fun i => gpow c i * nth ds i) := by rw [← rs_hor, rs_bsum]
theorem enc_len (ds : List Blk) : (enc ds).length = 3 := rfl
theorem enc_nth (ds : List Blk) {q : Nat} (h : q < 3) : nth (enc ds) q = hor (gpow 2 q) ds := nth_range _ h
/-! ### Syndromes -/
def col (n q k : Nat) : G := if k < n then gpow 2 (q * k) else if k = n + q then 1 else 0
def syn (n : Nat) (f : Nat → Blk) (q : Nat) : Blk := bsum (n + 3) fun k => col n q k * f k
theorem syn_add (n : Nat) (f g : Nat → Blk) (q : Nat) : syn n (fun k => f k + g k) q = syn n f q + syn n g q := by
  unfold syn; rw [← bsum_add]; exact bsum_congr fun k _ => Blk.mul_add _ _ _
theorem syn_list {ps : List Blk} {n q : Nat} (h : ps.length = n + 3) (hq : q < 3) : syn n (nth ps) q = hor (gpow 2 q) (ps.take n) + nth ps (n + q) := by
  have hl : (ps.take n).length = n := by rw [List.length_take]; omega
  have h1 : bsum n (fun k => col n q k * nth ps k) = hor (gpow 2 q) (ps.take n) := by
    rw [hor_bsum, hl]
    refine bsum_congr fun k hk => ?_
    rw [col, if_pos hk, gpow_gpow]
    congr 1
    unfold nth
    simp [List.getD_eq_getElem?_getD, List.getElem?_take, hk]
  have hc : ∀ j, j < 3 → col n q (n + j) = if j = q then 1 else 0 := fun j _ => by
    rw [col, if_neg (by omega)]
    by_cases e : j = q
    · rw [if_pos e, if_pos (by omega)]
    · rw [if_neg e, if_neg (by omega)]
  have hb : bsum (n + 3) (fun k => col n q k * nth ps k) = bsum n (fun k => col n q k * nth ps k) + col n q n * nth ps n + col n q (n + 1) * nth ps (n + 1) + col n q (n + 2) * nth ps (n + 2) := rfl
  rw [syn, hb, h1, show col n q n = if (0 : Nat) = q then 1 else 0 from hc 0 (by omega), hc 1 (by omega), hc 2 (by omega)]
  have h3 : q = 0 ∨ q = 1 ∨ q = 2 := by omega
  rcases h3 with rfl | rfl | rfl <;> simp [Blk.one_mul, Blk.zero_mul, Blk.add_zero]
theorem isGroup_syn {ps : List Blk} {n : Nat} (h : ps.length = n + 3) (h1 : 4 ≤ ps.length) (h2 : ps.length ≤ 16) : isGroup ps = true ↔ ∀ q, q < 3 → syn n (nth ps) q = 0 := by
  rw [isGroup_at h h1 h2, decide_eq_true_eq]
  have hd : ∀ q, nth (ps.drop n) q = nth ps (n + q) := fun q => by unfold nth; simp [List.getD_eq_getElem?_getD, List.getElem?_drop]
  constructor
  · intro e q hq
    rw [syn_list h hq, ← enc_nth _ hq, e, hd, Blk.add_self]
  · intro e
    refine list_ext_nth (by rw [enc_len, List.length_drop]; omega) fun q hq => ?_
    have hq3 : q < 3 := hq
    rw [enc_nth _ hq3, hd]
    have := e q hq3
    rw [syn_list h hq3] at this
    exact Blk.add_cancel this
/-! ### No three columns depend on each other -/
def colv (p q : Nat) : Nat := if p < 13 then pow2 (q * p) else if p = 13 + q then 1 else 0
def det3 (a b c : Nat) : Nat :=
  gmul (colv a 0) (gmul (colv b 1) (colv c 2) ^^^ gmul (colv b 2) (colv c 1)) ^^^ gmul (colv a 1) (gmul (colv b 0) (colv c 2) ^^^ gmul (colv b 2) (colv c 0)) ^^^ gmul (colv a 2) (gmul (colv b 0) (colv c 1) ^^^ gmul (colv b 1) (colv c 0))
theorem det_check : allB 16 (fun a => allB 16 fun b => Nat.beq a b || allB 16 fun c => Nat.beq a c || Nat.beq b c || Nat.blt 0 (det3 a b c)) = true := by decide +kernel
def code (n k : Nat) : Nat := if k < n then k else k - n + 13
theorem col_val {n k : Nat} (q : Nat) (hn : n ≤ 13) (hk : k < n + 3) : (col n q k).val = colv (code n k) q := by
  by_cases h : k < n
  · have h1 : code n k = k := if_pos h
    rw [h1, col, if_pos h, colv, if_pos (by omega), gpow_two_val]
  · have h1 : code n k = k - n + 13 := if_neg h
    rw [h1, col, if_neg h, colv, if_neg (show ¬ k - n + 13 < 13 by omega)]
    by_cases h2 : k = n + q
    · rw [if_pos h2, if_pos (by omega)]; rfl
    · rw [if_neg h2, if_neg (by omega)]; rfl
def det (n a b c : Nat) : G := col n 0 a * (col n 1 b * col n 2 c + col n 2 b * col n 1 c) + col n 1 a * (col n 0 b * col n 2 c + col n 2 b * col n 0 c) + col n 2 a * (col n 0 b * col n 1 c + col n 1 b * col n 0 c)
theorem det_ne {n a b c : Nat} (hn : n ≤ 13) (ha : a < n + 3) (hb : b < n + 3) (hc : c < n + 3) (hab : a ≠ b) (hac : a ≠ c) (hbc : b ≠ c) : det n a b c ≠ 0 := by
  intro h
  have hv : (det n a b c).val = det3 (code n a) (code n b) (code n c) := by
    simp only [det, det3, G.val_add, G.val_mul, col_val _ hn ha, col_val _ hn hb, col_val _ hn hc]
  rw [h] at hv
  have hlt : ∀ k, k < n + 3 → code n k < 16 := fun k hk => by unfold code; split <;> omega
  have hne : ∀ k j, k < n + 3 → j < n + 3 → k ≠ j → Nat.beq (code n k) (code n j) = false := fun k j hk hj hkj => by
    cases hbq : Nat.beq (code n k) (code n j) with
    | false => rfl
    | true => have := Nat.eq_of_beq_eq_true hbq; unfold code at this; split at this <;> split at this <;> omega
  have h1 := allB_spec det_check _ (hlt a ha)
  have h2 := allB_spec h1 _ (hlt b hb)
  rw [hne a b ha hb hab, Bool.false_or] at h2
  have h3 := allB_spec h2 _ (hlt c hc)
  rw [hne a c ha hc hac, hne b c hb hc hbc, ← hv] at h3
  cases h3
theorem cramer {p0 p1 p2 q0 q1 q2 r0 r1 r2 x y z : G} (h0 : p0 * x + q0 * y + r0 * z = 0) (h1 : p1 * x + q1 * y + r1 * z = 0) (h2 : p2 * x + q2 * y + r2 * z = 0) :
    (p0 * (q1 * r2 + q2 * r1) + p1 * (q0 * r2 + q2 * r0) + p2 * (q0 * r1 + q1 * r0)) * x = 0 := by
  have e : (q1 * r2 + q2 * r1) * (p0 * x + q0 * y + r0 * z) + (q0 * r2 + q2 * r0) * (p1 * x + q1 * y + r1 * z) + (q0 * r1 + q1 * r0) * (p2 * x + q2 * y + r2 * z) = 0 := by
    rw [h0, h1, h2, G.mul_zero, G.mul_zero, G.mul_zero]; rfl
  have e2 : (q1 * r2 + q2 * r1) * (p0 * x + q0 * y + r0 * z) + (q0 * r2 + q2 * r0) * (p1 * x + q1 * y + r1 * z) + (q0 * r1 + q1 * r0) * (p2 * x + q2 * y + r2 * z) =
      (p0 * (q1 * r2 + q2 * r1) + p1 * (q0 * r2 + q2 * r0) + p2 * (q0 * r1 + q1 * r0)) * x
      + ((q0 * q1 * r2 * y + q0 * q1 * r2 * y) + (q0 * q2 * r1 * y + q0 * q2 * r1 * y) + (q1 * q2 * r0 * y + q1 * q2 * r0 * y))
      + ((q1 * r0 * r2 * z + q1 * r0 * r2 * z) + (q2 * r0 * r1 * z + q2 * r0 * r1 * z) + (q0 * r1 * r2 * z + q0 * r1 * r2 * z)) := by
    simp only [G.mul_add, G.add_mul]
    ac_rfl
  rw [e2] at e
  simpa [G.add_self, G.add_zero] using e
theorem mds1 {n a b c : Nat} (hn : n ≤ 13) (ha : a < n + 3) (hb : b < n + 3) (hc : c < n + 3) (hab : a ≠ b) (hac : a ≠ c) (hbc : b ≠ c) {x y z : G} (h : ∀ q, q < 3 → col n q a * x + col n q b * y + col n q c * z = 0) : x = 0 := by
  have := cramer (h 0 (by omega)) (h 1 (by omega)) (h 2 (by omega))
  rcases mul_eq_zero_iff.1 this with h | h
  · exact absurd h (det_ne hn ha hb hc hab hac hbc)
  · exact h
theorem mdsB {n a b c : Nat} (hn : n ≤ 13) (ha : a < n + 3) (hb : b < n + 3) (hc : c < n + 3) (hab : a ≠ b) (hac : a ≠ c) (hbc : b ≠ c) {x y z : Blk} (h : ∀ q, q < 3 → col n q a * x + col n q b * y + col n q c * z = 0) : x = 0 :=
  Blk.ext_at fun k hk => by
    rw [Blk.zero_at hk]
    refine mds1 hn ha hb hc hab hac hbc (x := x.at k) (y := y.at k) (z := z.at k) fun q hq => ?_
    have := congrArg (fun b : Blk => b.at k) (h q hq)
    simpa [Blk.add_at _ _ hk, Blk.mul_at _ _ hk, Blk.zero_at hk] using this
theorem mds {n a b c : Nat} (hn : n ≤ 13) (ha : a < n + 3) (hb : b < n + 3) (hc : c < n + 3) (hab : a ≠ b) (hac : a ≠ c) (hbc : b ≠ c) {f : Nat → Blk} (h0 : ∀ k, k < n + 3 → k ≠ a → k ≠ b → k ≠ c → f k = 0) (h : ∀ q, q < 3 → syn n f q = 0) : ∀ k, k < n + 3 → f k = 0 := by
  have key : ∀ q, q < 3 → col n q a * f a + col n q b * f b + col n q c * f c = 0 := fun q hq => by
    have := h q hq
    rw [syn, bsum_take ha, bsum_take hb, bsum_take hc, bsum_zero] at this
    · rw [if_neg (fun h => hab h.symm), if_neg (fun h => hbc h.symm), if_neg (fun h => hac h.symm)] at this
      rw [Blk.add_zero, ← Blk.add_assoc] at this
      exact this
    · intro k hk
      by_cases h1 : k = c
      · rw [if_pos h1]
      · by_cases h2 : k = b
        · rw [if_neg h1, if_pos h2]
        · by_cases h3 : k = a
          · rw [if_neg h1, if_neg h2, if_pos h3]
          · rw [if_neg h1, if_neg h2, if_neg h3, h0 k hk h3 h2 h1, Blk.mul_zero]
  have hA := mdsB hn ha hb hc hab hac hbc key
  have hB := mdsB hn hb ha hc (fun h => hab h.symm) hbc hac (x := f b) (y := f a) (z := f c) fun q hq => by rw [Blk.add_comm (col n q b * f b)]; exact key q hq
  have hC := mdsB hn hc ha hb (fun h => hac h.symm) (fun h => hbc h.symm) hab (x := f c) (y := f a) (z := f b) fun q hq => by rw [Blk.add_assoc, Blk.add_comm]; exact key q hq
  intro k hk
  by_cases h1 : k = a
  · rw [h1]; exact hA
  by_cases h2 : k = b
  · rw [h2]; exact hB
  by_cases h3 : k = c
  · rw [h3]; exact hC
  exact h0 k hk h1 h2 h3
theorem three {m : Nat} (h : 3 ≤ m) {a b c : Nat} (ha : a < m) (hb : b < m) (hc : c < m) : ∃ x y z, x < m ∧ y < m ∧ z < m ∧ x ≠ y ∧ x ≠ z ∧ y ≠ z ∧ ∀ k, k ≠ x → k ≠ y → k ≠ z → k ≠ a ∧ k ≠ b ∧ k ≠ c := by
  have two : ∀ p q, p < m → q < m → p ≠ q → ∃ z, z < m ∧ p ≠ z ∧ q ≠ z := fun p q hp hq hpq => by
    by_cases h0 : p ≠ 0 ∧ q ≠ 0
    · exact ⟨0, by omega, h0.1, h0.2⟩
    by_cases h1 : p ≠ 1 ∧ q ≠ 1
    · exact ⟨1, by omega, h1.1, h1.2⟩
    · exact ⟨2, by omega, by omega, by omega⟩
  by_cases hab : a = b
  · by_cases hac : a = c
    · obtain ⟨y, hy, h1⟩ : ∃ y, y < m ∧ a ≠ y := by
        by_cases h0 : a = 0
        · exact ⟨1, by omega, by omega⟩
        · exact ⟨0, by omega, h0⟩
      obtain ⟨z, hz, h2, h3⟩ := two a y ha hy h1
      exact ⟨a, y, z, ha, hy, hz, h1, h2, h3, fun k h1 h2 h3 => ⟨h1, by omega, by omega⟩⟩
    · obtain ⟨z, hz, h2, h3⟩ := two a c ha hc hac
      exact ⟨a, c, z, ha, hc, hz, hac, h2, h3, fun k h1 h2 h3 => ⟨h1, by omega, h2⟩⟩
  · by_cases hc1 : c = a ∨ c = b
    · obtain ⟨z, hz, h2, h3⟩ := two a b ha hb hab
      exact ⟨a, b, z, ha, hb, hz, hab, h2, h3, fun k h1 h2 h3 => ⟨h1, h2, by omega⟩⟩
    · exact ⟨a, b, c, ha, hb, hc, hab, by omega, by omega, fun k h1 h2 h3 => ⟨h1, h2, h3⟩⟩
theorem near_groups {p q : List Blk} (h1 : 4 ≤ p.length) (h2 : p.length ≤ 16) (hl : q.length = p.length) (hp : isGroup p = true) (hq : isGroup q = true) {a b c : Nat} (ha : a < p.length) (hb : b < p.length) (hc : c < p.length) (h : ∀ k, k < p.length → k ≠ a → k ≠ b → k ≠ c → nth q k = nth p k) : q = p := by
  obtain ⟨n, hn⟩ : ∃ n, p.length = n + 3 := ⟨p.length - 3, by omega⟩
  obtain ⟨x, y, z, hx, hy, hz, hxy, hxz, hyz, hk⟩ := three (m := p.length) (by omega) ha hb hc
  rw [hn] at hx hy hz
  have hs := mds (n := n) (f := fun k => nth q k + nth p k) (by omega) hx hy hz hxy hxz hyz (fun k hkn h1 h2 h3 => by
    obtain ⟨e1, e2, e3⟩ := hk k h1 h2 h3
    show nth q k + nth p k = 0
    rw [h k (by omega) e1 e2 e3, Blk.add_self]) (fun j hj => by
      rw [syn_add, (isGroup_syn (by omega) (by omega) (by omega)).1 hq j hj, (isGroup_syn hn h1 h2).1 hp j hj, Blk.add_zero])
  exact list_ext_nth hl fun k hk => Blk.add_cancel (hs k (by omega))
theorem isGroup_enc {ds : List Blk} (h1 : 1 ≤ ds.length) (h2 : ds.length ≤ 13) : isGroup (ds ++ enc ds) = true := by
  have hl : (ds ++ enc ds).length = ds.length + 3 := by rw [List.length_append]; rfl
  rw [isGroup_at hl (by omega) (by omega), List.take_left, List.drop_left]
  exact decide_eq_true rfl
end Go.Proofs.Ytnkbnponpknokaa
namespace Go.Proofs.Ytnkbnponpknokaa
set_option maxRecDepth 20000
open Go.RowKit
attribute [local irreducible] Calls
def comb (ws : List G) (ds : List Blk) (n : Nat) : Blk := bsum n fun k => nth ws k * nth ds k
theorem comb_succ (ws : List G) (ds : List Blk) (n : Nat) : comb ws ds (n + 1) = comb ws ds n + nth ws n * nth ds n := rfl
set_option maxHeartbeats 2000000 in
theorem rcombine_e (vw vb : Value) (ws : List G) (ds : List Blk) (w : World) (h1 : Sl w 1 vw ws.length (bvs ws)) (h2 : Sl w 8 vb ds.length (kvs ds)) (hl : ws.length ≤ ds.length) (hn : ws.length ≤ 1000) :
    Calls Try.prog 95 #[vw, vb] w fun e w' => e = .returned (kv (comb ws ds ws.length)) ∧ Below w.heap.size w w' := by
  obtain ⟨A, c, rfl, hcc, hm, hs⟩ := h1.open_
  obtain ⟨B, d, rfl, hcd, hmd, hsb⟩ := h2.open_
  refine calls_wcG (args := [.slice A ws.length c, .slice B ds.length d]) [.cell 4 38] [] Try.func95 rfl Try.ntmps95 rfl rfl (H.refl w) ?_
  refine WC.seq fun K hK => ?_
  refine WC.region rfl ?_
  refine WL.want rfl (WL1.alloc rfl rfl rfl rfl (fun b4 => ?_))
  refine WL.nil ?_
  (refine hK _ _ ?_; clear hK)
  refine WC.seq fun K hK => ?_
  refine WC.region rfl ?_
  refine WL.want rfl (WL1.alloc rfl rfl rfl rfl (fun b5 => ?_))
  refine WL.nil ?_
  (refine hK _ _ ?_; clear hK)
  refine WC.seq fun K hK => ?_
  refine WC.seq fun K hK => ?_
  refine WC.region rfl ?_
  refine wG rfl rfl (g_assign rfl (.mk (v := .int _ _) rfl rfl)) ?_
  refine WL.nil ?_
  (refine hK _ _ ?_; clear hK)
  refine WC.block ?_
  refine WC.loop (16777152) (fun i : Nat => [(6, iv i)]) (fun i => [pt b5 38 (comb ws ds i).cells, pt b4 38 z8]) (fun i => i ≤ ws.length) (fun i => ws.length - i) 0 ⟨rfl, trivial⟩ (.refl _) (by omega) ?_
  intro i U hi
  by_cases hlt : i < ws.length
  · have hgd : ∀ j u, (nth ds i).cells[j]? = some u → (kvs ds)[i * 8 + j]? = some u := fun j u h => flat_row blk8 (by omega) j u h
    have hcl := (comb ws ds i).len
    obtain ⟨a, ha⟩ : ∃ a, a = comb ws ds i := ⟨_, rfl⟩
    have hst : comb ws ds (i + 1) = a + nth ws i * nth ds i := by rw [comb_succ, ha]
    rw [← ha] at hcl
    rw [← ha]
    refine WC.seq fun K hK => ?_
    refine WC.seq fun K hK => ?_
    refine WC.region rfl ?_
    refine wG rfl rfl (g_move rfl (.mk (v := .int _ _) rfl rfl)) ?_
    refine wG rfl rfl (g_move rfl (.mk (v := .slice _ _ _) rfl rfl)) ?_
    refine wG rfl rfl (g_len rfl (.mk rfl rfl) rfl) ?_
    refine wG rfl rfl (g_lt rfl (.mk rfl rfl) (.mk rfl rfl) (decide_eq_true (by omega))) ?_
    refine WL.nil ?_
    (refine hK _ _ ?_; clear hK)
    refine WC.cond_true (.mk rfl rfl) ?_
    refine WC.skip ?_
    (refine hK _ _ ?_; clear hK)
    refine WC.seq fun K hK => ?_
    refine WC.block ?_
    refine WC.until [pt b5 38 a.cells] [11] rfl (by kernel_rfl) ?_
    refine WB.take 0 rfl (by decide +kernel) (by decide +kernel) (by decide +kernel) (by decide +kernel) rfl rfl (Imp.sub (by first | ((repeat (first | exact List.nil_sublist _ | exact List.Sublist.refl _ | apply List.Sublist.cons_cons | apply List.Sublist.cons)); done) | fail)) (g_loadA rfl (.mk rfl rfl) rfl (sz8 _) (rdr_pt (by repeat (first | exact .head _ | apply List.Mem.tail)) (fun j u h => by simpa using h))) ?_
    refine WB.takeP 1 rfl (by decide +kernel) (by decide +kernel) (by decide +kernel) (by decide +kernel) rfl rfl (.inr (Imp.sub (by first | ((repeat (first | exact List.nil_sublist _ | exact List.Sublist.refl _ | apply List.Sublist.cons_cons | apply List.Sublist.cons)); done) | fail))) (g_move rfl (.mk (v := .slice _ _ _) rfl rfl)) ?_
    refine WB.takeP 2 rfl (by decide +kernel) (by decide +kernel) (by decide +kernel) (by decide +kernel) rfl rfl (.inr (Imp.sub (by first | ((repeat (first | exact List.nil_sublist _ | exact List.Sublist.refl _ | apply List.Sublist.cons_cons | apply List.Sublist.cons)); done) | fail))) (g_move rfl (.mk (v := .int _ _) rfl rfl)) ?_
    refine WB.takeP 3 rfl (by decide +kernel) (by decide +kernel) (by decide +kernel) (by decide +kernel) rfl rfl (.inr (Imp.sub (by first | ((repeat (first | exact List.nil_sublist _ | exact List.Sublist.refl _ | apply List.Sublist.cons_cons | apply List.Sublist.cons)); done) | fail))) (g_indexAddr (sz := 1) rfl (.mk rfl rfl) (.mk rfl rfl) rfl rfl rfl (by omega) (fun _ _ => sl_some hs (by omega))) ?_
    refine WB.take 4 rfl (by decide +kernel) (by decide +kernel) (by decide +kernel) (by decide +kernel) rfl rfl (Imp.sub (by first | ((repeat (first | exact List.nil_sublist _ | exact List.Sublist.refl _ | apply List.Sublist.cons_cons | apply List.Sublist.cons)); done) | fail)) (g_load rfl (.mk rfl rfl) rfl (rd_sl hs (get1 (by omega)))) ?_
    refine WB.takeP 5 rfl (by decide +kernel) (by decide +kernel) (by decide +kernel) (by decide +kernel) rfl rfl (.inr (Imp.sub (by first | ((repeat (first | exact List.nil_sublist _ | exact List.Sublist.refl _ | apply List.Sublist.cons_cons | apply List.Sublist.cons)); done) | fail))) (g_move rfl (.mk (v := .slice _ _ _) rfl rfl)) ?_
    refine WB.takeP 6 rfl (by decide +kernel) (by decide +kernel) (by decide +kernel) (by decide +kernel) rfl rfl (.inr (Imp.sub (by first | ((repeat (first | exact List.nil_sublist _ | exact List.Sublist.refl _ | apply List.Sublist.cons_cons | apply List.Sublist.cons)); done) | fail))) (g_move rfl (.mk (v := .int _ _) rfl rfl)) ?_
    refine WB.takeP 7 rfl (by decide +kernel) (by decide +kernel) (by decide +kernel) (by decide +kernel) rfl rfl (.inr (Imp.sub (by first | ((repeat (first | exact List.nil_sublist _ | exact List.Sublist.refl _ | apply List.Sublist.cons_cons | apply List.Sublist.cons)); done) | fail))) (g_indexAddr (sz := 8) rfl (.mk rfl rfl) (.mk rfl rfl) rfl rfl rfl (by omega) (fun _ _ => sl_some hsb (by omega))) ?_
    refine WB.take 8 rfl (by decide +kernel) (by decide +kernel) (by decide +kernel) (by decide +kernel) rfl rfl (Imp.sub (by first | ((repeat (first | exact List.nil_sublist _ | exact List.Sublist.refl _ | apply List.Sublist.cons_cons | apply List.Sublist.cons)); done) | fail)) (g_loadA rfl (.mk rfl rfl) rfl (sz8 _) (rdr_sl hsb (by omega) hgd)) ?_
    refine WB.one 9 (by decide +kernel) rfl rfl ?_
    refine WL1.callP rfl rfl rfl (.cons (.mk (v := .int _ _) rfl rfl) (.cons (.mk (v := .agg _) rfl rfl) .nil)) (fun w hw => scale_e (nth ws i) (nth ds i) w) ?_
    refine WL.nil ?_
    refine ⟨.inr (Imp.sub (by first | ((repeat (first | exact List.nil_sublist _ | exact List.Sublist.refl _ | apply List.Sublist.cons_cons | apply List.Sublist.cons)); done) | fail)), ?_⟩
    refine WB.one 10 (by decide +kernel) rfl rfl ?_
    refine WL1.callP rfl rfl rfl (.cons (.mk (v := .agg _) rfl rfl) (.cons (.mk (v := .agg _) rfl rfl) .nil)) (fun w hw => xor_e a (nth ws i * nth ds i) w) ?_
    refine WL.nil ?_
    refine ⟨.inr (Imp.sub (by first | ((repeat (first | exact List.nil_sublist _ | exact List.Sublist.refl _ | apply List.Sublist.cons_cons | apply List.Sublist.cons)); done) | fail)), ?_⟩
    refine WB.one 11 (by decide +kernel) rfl rfl ?_
    refine WL1.storeAll rfl rfl (.mk rfl rfl) (.mk rfl rfl) rfl (all1 rfl) (by first | rfl | (simp [Blk.len]; done)) (.head) ?_
    refine WL.nil ?_
    refine ⟨.inl (by decide +kernel), ?_⟩
    refine WB.done (by decide +kernel) ?_
    (refine hK _ _ ?_; clear hK)
    refine WC.region rfl ?_
    refine wG rfl rfl (g_move rfl (.mk (v := .int _ _) rfl rfl)) ?_
    refine wG rfl rfl (g_add rfl (.mk rfl rfl) (.mk rfl rfl) (IntWalk.i64_in _ (by omega))) ?_
    refine wG rfl rfl (g_assign rfl (.mk (v := .int _ _) rfl rfl)) ?_
    refine WL.nil ?_
    exact ⟨i + 1, (by repeat (first | with_reducible exact Out.refl _ _ | refine Out.set rfl ?_ | refine Out.put rfl ?_ | refine Out.sets rfl ?_ | refine Out.hav rfl ?_ | exact Out.refl _ _)), ⟨rfl, trivial⟩, by rw [hst]; exact .refl _, by omega, by omega⟩
  · obtain rfl : i = ws.length := by omega
    refine WC.seq fun K hK => ?_
    refine WC.seq fun K hK => ?_
    refine WC.region rfl ?_
    refine wG rfl rfl (g_move rfl (.mk (v := .int _ _) rfl rfl)) ?_
    refine wG rfl rfl (g_move rfl (.mk (v := .slice _ _ _) rfl rfl)) ?_
    refine wG rfl rfl (g_len rfl (.mk rfl rfl) rfl) ?_
    refine wG rfl rfl (g_lt rfl (.mk rfl rfl) (.mk rfl rfl) (decide_eq_false (by omega))) ?_
    refine WL.nil ?_
    (refine hK _ _ ?_; clear hK)
    refine WC.cond_false (.mk rfl rfl) ?_
    refine WC.exit ?_
    (clear hK; refine hK _ _ ?_; clear hK)
    refine WC.seq fun K hK => ?_
    refine WC.region rfl ?_
    refine wG rfl rfl (g_loadA rfl (.mk rfl rfl) rfl (sz8 _) (rdr_pt (.head _) (fun j u h => by simpa using h))) ?_
    refine WL.want rfl (WL1.storeAll rfl rfl (.mk rfl rfl) (.mk rfl rfl) (sz8 _) (Blk.one _) (by first | rfl | (simp [Blk.len]; done)) (.tail (.head)) ?_)
    refine WL.nil ?_
    (refine hK _ _ ?_; clear hK)
    refine WC.ret ?_
    exact ⟨_, .cell rfl rfl rfl (sz8 _) (.tail _ (.head _)) .nil, fun w' hw' => ⟨rfl, hw'.1⟩⟩
set_option maxHeartbeats 2000000 in
theorem combine_e (vw vb : Value) (ws : List G) (ds : List Blk) (w : World) (h1 : Sl w 1 vw ws.length (bvs ws)) (h2 : Sl w 8 vb ds.length (kvs ds)) (hl : ws.length = ds.length) (hn : ws.length ≤ 1000) :
    Calls Try.prog 87 #[vw, vb] w fun e w' => e = .returned (.tuple #[kv (comb ws ds ws.length), iv 0]) ∧ Below w.heap.size w w' := by
  obtain ⟨A, c, rfl, hcc, hm, hs⟩ := h1.open_
  obtain ⟨B, d, rfl, hcd, hmd, hsb⟩ := h2.open_
  refine calls_wcG (args := [.slice A ws.length c, .slice B ds.length d]) [.cell 4 38, .tmp 5] [] Try.func87 rfl Try.ntmps87 rfl rfl (H.refl w) ?_
  refine WC.seq fun K hK => ?_
  refine WC.region rfl ?_
  refine WL.want rfl (WL1.alloc rfl rfl rfl rfl (fun b4 => ?_))
  refine wG rfl rfl (g_assign rfl (.mk (v := .int _ _) rfl rfl)) ?_
  refine WL.nil ?_
  (refine hK _ _ ?_; clear hK)
  refine WC.seq fun K hK => ?_
  refine WC.region rfl ?_
  refine WL.want rfl (WL1.alloc rfl rfl rfl rfl (fun b6 => ?_))
  refine WL.nil ?_
  (refine hK _ _ ?_; clear hK)
  refine WC.seq fun K hK => ?_
  refine WC.seq fun K hK => ?_
  refine WC.region rfl ?_
  refine wG rfl rfl (g_move rfl (.mk (v := .slice _ _ _) rfl rfl)) ?_
  refine wG rfl rfl (g_len rfl (.mk rfl rfl) rfl) ?_
  refine wG rfl rfl (g_move rfl (.mk (v := .slice _ _ _) rfl rfl)) ?_
  refine wG rfl rfl (g_len rfl (.mk rfl rfl) rfl) ?_
  refine wG rfl rfl (g_ne rfl (.mk rfl rfl) (.mk rfl rfl) (decide_eq_false (by omega))) ?_
  refine WL.nil ?_
  (refine hK _ _ ?_; clear hK)
  refine WC.cond_false (.mk rfl rfl) ?_
  refine WC.skip ?_
  (refine hK _ _ ?_; clear hK)
  refine WC.seq fun K hK => ?_
  refine WC.seq fun K hK => ?_
  refine WC.region rfl ?_
  refine wG rfl rfl (g_move rfl (.mk (v := .slice _ _ _) rfl rfl)) ?_
  refine wG rfl rfl (g_len rfl (.mk rfl rfl) rfl) ?_
  refine wG rfl rfl (g_move rfl (.mk (v := .int _ _) rfl rfl)) ?_
  refine WL.nil ?_
  (refine hK _ _ ?_; clear hK)
  refine WC.block ?_
  refine WC.loop (2199022994304) (fun i : Nat => [(18, iv i)]) (fun i => [pt b6 38 (comb ws ds i).cells, pt b4 38 z8]) (fun i => i ≤ ds.length) (fun i => ds.length - i) 0 ⟨rfl, trivial⟩ (.refl _) (by omega) ?_
  intro i U hi
  obtain ⟨a, ha⟩ : ∃ a, a = comb ws ds i := ⟨_, rfl⟩
  by_cases hlt : i < ds.length
  · have hgd : ∀ j u, (nth ds i).cells[j]? = some u → (kvs ds)[i * 8 + j]? = some u := fun j u h => flat_row blk8 (by omega) j u h
    obtain ⟨b, hb⟩ : ∃ b, b = nth ds i := ⟨_, rfl⟩
    have hst : comb ws ds (i + 1) = Blk.of fun j => a.at j + nth ws i * b.at j := by rw [comb_succ, ← ha, ← hb]; rfl
    rw [← hb] at hgd
    rw [← ha]
    refine WC.seq fun K hK => ?_
    refine WC.region rfl ?_
    refine wG rfl rfl (g_lt rfl (.mk rfl rfl) (.mk rfl rfl) (decide_eq_true (by omega))) ?_
    refine WL.nil ?_
    (refine hK _ _ ?_; clear hK)
    refine WC.seq fun K hK => ?_
    refine WC.cond_true (.mk rfl rfl) ?_
    refine WC.skip ?_
    (refine hK _ _ ?_; clear hK)
    refine WC.seq fun K hK => ?_
    refine WC.block ?_
    refine WC.seq fun K hK => ?_
    refine WC.region rfl ?_
    refine wG rfl rfl (g_move rfl (.mk (v := .int _ _) rfl rfl)) ?_
    refine wG rfl rfl (g_indexAddr (sz := 8) rfl (.mk rfl rfl) (.mk rfl rfl) rfl rfl rfl (by omega) (fun _ _ => sl_some hsb (by omega))) ?_
    refine wG rfl rfl (g_loadA rfl (.mk rfl rfl) rfl (sz8 _) (rdr_sl hsb (by omega) hgd)) ?_
    refine WL.want rfl (WL1.alloc rfl rfl rfl rfl (fun b8 => ?_))
    refine wG rfl rfl (g_assign rfl (.mk (v := .int _ _) rfl rfl)) ?_
    refine WL.want rfl (WL1.storeAll rfl rfl (.mk rfl rfl) (.mk rfl rfl) (sz8 _) (Blk.one _) (by first | rfl | (simp [Blk.len]; done)) (.head) ?_)
    refine WL.nil ?_
    (refine hK _ _ ?_; clear hK)
    refine WC.seq fun K hK => ?_
    refine WC.region rfl ?_
    refine wG rfl rfl (g_move rfl (.mk (v := .int _ _) rfl rfl)) ?_
    refine WL.nil ?_
    (refine hK _ _ ?_; clear hK)
    refine WC.block ?_
    refine WC.loop (1099503239680) (fun k : Nat => [(23, iv k)]) (fun k => [pt b8 38 b.cells, pt b6 38 (mix k (fun j => a.at j + nth ws i * b.at j) (fun j => a.at j)).cells, pt b4 38 z8]) (fun k => k ≤ 8) (fun k => 8 - k) 0 ⟨rfl, trivial⟩ (by rw [← mix_start]; exact .refl _) (by omega) ?_
    intro k V hk
    by_cases hlt2 : k < 8
    · have hml := (mix k (fun j => a.at j + nth ws i * b.at j) (fun j => a.at j)).len
      refine WC.seq fun K hK => ?_
      refine WC.region rfl ?_
      refine wG rfl rfl (g_lt rfl (.mk rfl rfl) (.mk rfl rfl) (decide_eq_true (by omega))) ?_
      refine WL.nil ?_
      (refine hK _ _ ?_; clear hK)
      refine WC.seq fun K hK => ?_
      refine WC.cond_true (.mk rfl rfl) ?_
      refine WC.skip ?_
      (refine hK _ _ ?_; clear hK)
      refine WC.seq fun K hK => ?_
      refine WC.block ?_
      refine WC.seq fun K hK => ?_
      refine WC.region rfl ?_
      refine wG rfl rfl (g_move rfl (.mk (v := .int _ _) rfl rfl)) ?_
      refine wG rfl rfl (g_assign rfl (.mk (v := .int _ _) rfl rfl)) ?_
      refine WL.nil ?_
      (refine hK _ _ ?_; clear hK)
      refine WC.split 13 rfl (by kernel_rfl) (by decide +kernel) ?_
      refine WQ.want rfl (WQ1.give rfl (g_move rfl (.mk (v := .int _ _) rfl rfl)) ?_)
      refine WQ.want rfl (WQ1.give rfl (g_indexAddrA (sz := 1) rfl (.mk rfl rfl) (.mk rfl rfl) rfl rfl rfl (by omega) (fun _ _ => rfl)) ?_)
      refine WQ.want rfl (WQ1.give rfl (g_load rfl (.mk rfl rfl) rfl (rd_pt (.tail _ (.head _)) (ix (mix_get hlt2 (by omega)) (by omega)))) ?_)
      refine WQ.want rfl (WQ1.give rfl (g_move rfl (.mk (v := .slice _ _ _) rfl rfl)) ?_)
      refine WQ.want rfl (WQ1.give rfl (g_move rfl (.mk (v := .int _ _) rfl rfl)) ?_)
      refine WQ.want rfl (WQ1.give rfl (g_indexAddr (sz := 1) rfl (.mk rfl rfl) (.mk rfl rfl) rfl rfl rfl (by omega) (fun _ _ => sl_some hs (by omega))) ?_)
      refine WQ.want rfl (WQ1.give rfl (g_load rfl (.mk rfl rfl) rfl (rd_sl hs (get1 (by omega)))) ?_)
      refine WQ.want rfl (WQ1.give rfl (g_move rfl (.mk (v := .int _ _) rfl rfl)) ?_)
      refine WQ.want rfl (WQ1.give rfl (g_indexAddrA (sz := 1) rfl (.mk rfl rfl) (.mk rfl rfl) rfl rfl rfl (by omega) (fun _ _ => rfl)) ?_)
      refine WQ.want rfl (WQ1.give rfl (g_load rfl (.mk rfl rfl) rfl (rd_pt (.head _) (ix (b.get hlt2) (by omega)))) ?_)
      refine WQ.want rfl (WQ1.callP rfl rfl rfl (.cons (.mk (v := .int _ _) rfl rfl) (.cons (.mk (v := .int _ _) rfl rfl) .nil)) (fun w hw => Calls.belowS (mul_c (nth ws i) (b.at k) w)) ?_)
      refine WQ.want rfl (WQ1.give rfl (g_xor (k := .u8) rfl (.mk rfl rfl) (.mk rfl rfl) (xor_u8 _ _)) ?_)
      refine WQ.want rfl (WQ1.give rfl (g_indexAddrA (sz := 1) rfl (.mk rfl rfl) (.mk rfl rfl) rfl rfl rfl (by omega) (fun _ _ => rfl)) ?_)
      refine WQ.nil ?_
      refine WY.one 13 (by decide +kernel) rfl rfl ?_
      refine WL1.store1 rfl rfl (.mk rfl rfl) (.mk (v := .int _ _) rfl rfl) rfl rfl (by first | omega | (simp; done) | (simp; omega)) (.tail (.head)) ?_
      refine WL.nil ?_
      refine WY.done (by decide +kernel) ?_
      (refine hK _ _ ?_; clear hK)
      refine WC.region rfl ?_
      refine wG rfl rfl (g_add rfl (.mk rfl rfl) (.mk rfl rfl) (IntWalk.i64_in _ (by omega))) ?_
      refine wG rfl rfl (g_move rfl (.mk (v := .int _ _) rfl rfl)) ?_
      refine WL.nil ?_
      exact ⟨k + 1, (by repeat (first | with_reducible exact Out.refl _ _ | refine Out.set rfl ?_ | refine Out.put rfl ?_ | refine Out.sets rfl ?_ | refine Out.hav rfl ?_ | exact Out.refl _ _)), ⟨rfl, trivial⟩, subK (sub1 (mix_put hlt2 (by omega) rfl) (.refl _)), by omega, by omega⟩
    · obtain rfl : k = 8 := by omega
      refine WC.seq fun K hK => ?_
      refine WC.region rfl ?_
      refine wG rfl rfl (g_lt rfl (.mk rfl rfl) (.mk rfl rfl) (decide_eq_false (by omega))) ?_
      refine WL.nil ?_
      (refine hK _ _ ?_; clear hK)
      refine WC.seq fun K hK => ?_
      refine WC.cond_false (.mk rfl rfl) ?_
      refine WC.exit ?_
      (clear hK; refine hK _ _ ?_; clear hK)
      refine WC.region rfl ?_
      refine wG rfl rfl (g_add rfl (.mk rfl rfl) (.mk rfl rfl) (IntWalk.i64_in _ (by omega))) ?_
      refine wG rfl rfl (g_move rfl (.mk (v := .int _ _) rfl rfl)) ?_
      refine WL.nil ?_
      exact ⟨i + 1, (by repeat (first | with_reducible exact Out.refl _ _ | refine Out.set rfl ?_ | refine Out.put rfl ?_ | refine Out.sets rfl ?_ | refine Out.hav rfl ?_ | exact Out.refl _ _)), ⟨rfl, trivial⟩, by rw [hst, mix_all]; exact .cons _ (.refl _), by omega, by omega⟩
  · obtain rfl : i = ds.length := by omega
    rw [← ha]
    have hae : a = comb ws ds ws.length := by rw [ha, hl]
    have hcl := a.len
    refine WC.seq fun K hK => ?_
    refine WC.region rfl ?_
    refine wG rfl rfl (g_lt rfl (.mk rfl rfl) (.mk rfl rfl) (decide_eq_false (by omega))) ?_
    refine WL.nil ?_
    (refine hK _ _ ?_; clear hK)
    refine WC.seq fun K hK => ?_
    refine WC.cond_false (.mk rfl rfl) ?_
    refine WC.exit ?_
    (clear hK; refine hK _ _ ?_; clear hK)
    refine WC.seq fun K hK => ?_
    refine WC.region rfl ?_
    refine wG rfl rfl (g_loadA rfl (.mk rfl rfl) rfl (sz8 _) (rdr_pt (.head _) (fun j u h => by simpa using h))) ?_
    refine WL.want rfl (WL1.storeAll rfl rfl (.mk rfl rfl) (.mk rfl rfl) (sz8 _) (Blk.one _) (by first | rfl | (simp [Blk.len]; done)) (.tail (.head)) ?_)
    refine wG rfl rfl (g_assign rfl (.mk (v := .int _ _) rfl rfl)) ?_
    refine WL.nil ?_
    (refine hK _ _ ?_; clear hK)
    refine WC.ret ?_
    exact ⟨_, .cell rfl rfl rfl (sz8 _) (.tail _ (.head _)) (.tmp rfl rfl .nil), fun w' hw' => ⟨by rw [← hae]; rfl, hw'.1⟩⟩
end Go.Proofs.Ytnkbnponpknokaa
namespace Go.Proofs.Ytnkbnponpknokaa
set_option maxRecDepth 20000
open Go.RowKit
theorem bsum_at {t : Nat} (ht : t < 8) : ∀ (n : Nat) (f : Nat → Blk), (bsum n f).at t = gsum n fun k => (f k).at t
  | 0, _ => Blk.zero_at ht
  | n + 1, f => by
    show (bsum n f + f n).at t = gsum n _ + _
    rw [Blk.add_at _ _ ht, bsum_at ht n f]
theorem mulsum_at {t : Nat} (ht : t < 8) (n : Nat) (c : Nat → G) (f : Nat → Blk) : (bsum n fun k => c k * f k).at t = gsum n fun k => c k * (f k).at t := by
  rw [bsum_at ht]
  exact gsum_congr fun k _ => Blk.mul_at _ _ ht
def genM (n : Nat) : List (List G) := idM n ++ matx n
theorem genM_row {n i : Nat} (hi : i < n + 3) : nth (genM n) i = if i < n then (List.range n).map fun k => dlt i k else coefs n (i - n) := by
  have hl : (idM n).length = n := by simp [idM]
  unfold genM
  rw [nth_app, hl]
  by_cases h : i < n
  · rw [if_pos h, if_pos h]; exact nth_range _ h
  · rw [if_neg h, if_neg h]; exact nth_range _ (by omega)
theorem genM_rowlen {n i : Nat} (hi : i < n + 3) : (nth (genM n) i).length = n := by
  rw [genM_row hi]
  by_cases h : i < n
  · rw [if_pos h]; simp
  · rw [if_neg h]; exact coefs_len n _
def gen (n i j : Nat) : G := if i < n then dlt i j else gpow 2 (j * (i - n))
theorem genM_el {n i j : Nat} (hi : i < n + 3) (hj : j < n) : el (genM n) i j = gen n i j := by
  unfold el gen
  rw [genM_row hi]
  by_cases h : i < n
  · rw [if_pos h, if_pos h]; exact nth_range _ hj
  · rw [if_neg h, if_neg h]; exact nth_range _ hj
theorem grp_gen (ds : List Blk) {i : Nat} (hi : i < ds.length + 3) : nth (ds ++ enc ds) i = bsum ds.length fun j => gen ds.length i j * nth ds j := by
  rw [nth_app]
  by_cases h : i < ds.length
  · rw [if_pos h]
    refine Blk.ext_at fun t ht => ?_
    rw [mulsum_at ht, gsum_congr (g := fun j => dlt i j * (nth ds j).at t) fun j _ => by unfold gen; rw [if_pos h]]
    exact (gsum_dlt h fun j => (nth ds j).at t).symm
  · rw [if_neg h, enc_nth _ (by omega), hor_bsum]
    refine bsum_congr fun j _ => ?_
    unfold gen
    rw [if_neg h, gpow_gpow, Nat.mul_comm]
theorem compl {m : Nat} : ∀ l : List Nat, l.Nodup → (∀ a ∈ l, a < m) → ∃ c : List Nat, c.length + l.length = m ∧ (∀ k, k < m → k ∈ l ∨ k ∈ c) ∧ ∀ k ∈ c, k < m
  | [], _, _ => ⟨List.range m, by simp, fun k hk => .inr (by simpa using hk), fun k hk => by simpa using hk⟩
  | a :: l, hn, hl => by
    obtain ⟨h1, h2⟩ := List.nodup_cons.1 hn
    obtain ⟨c, c1, c2, c3⟩ := compl l h2 fun b hb => hl b (by simp [hb])
    have hac : a ∈ c := (c2 a (hl a (by simp))).resolve_left h1
    refine ⟨c.erase a, ?_, fun k hk => ?_, fun k hk => c3 k (List.mem_of_mem_erase hk)⟩
    · have := List.length_erase_of_mem hac
      have h0 : 0 < c.length := List.length_pos_of_mem hac
      rw [List.length_cons]; omega
    · by_cases e : k = a
      · exact .inl (by simp [e])
      · rcases c2 k hk with h | h
        · exact .inl (by simp [h])
        · exact .inr ((List.mem_erase_of_ne e).2 h)
structure Helps (n : Nat) (from_ : List Nat) : Prop where
  len : from_.length = n
  lt : ∀ i, i < n → nth from_ i < n + 3
  nd : from_.Nodup
theorem Helps.three {n : Nat} {fr : List Nat} (h : Helps n fr) : ∃ a b c, a < n + 3 ∧ b < n + 3 ∧ c < n + 3 ∧ ∀ k, k < n + 3 → k ≠ a → k ≠ b → k ≠ c → ∃ i, i < n ∧ nth fr i = k := by
  obtain ⟨c, c1, c2, c3⟩ := compl (m := n + 3) fr h.nd fun a ha => by
    obtain ⟨i, hi, rfl⟩ := List.getElem_of_mem ha
    have := h.lt i (by rw [← h.len]; exact hi)
    rwa [nth_eq hi] at this
  have hl := h.len
  match c, (show c.length = 3 by omega) with
  | [x, y, z], _ =>
    refine ⟨x, y, z, c3 x (by simp), c3 y (by simp), c3 z (by simp), fun k hk k1 k2 k3 => ?_⟩
    rcases c2 k hk with h' | h'
    · obtain ⟨i, hi, e⟩ := List.getElem_of_mem h'
      exact ⟨i, by omega, by rw [nth_eq hi]; exact e⟩
    · simp at h'; rcases h' with rfl | rfl | rfl <;> contradiction
theorem zero_group {n : Nat} (h1 : 1 ≤ n) (h2 : n ≤ 13) : isGroup (List.replicate (n + 3) (0 : Blk)) = true := by
  have e : List.replicate (n + 3) (0 : Blk) = List.replicate n 0 ++ enc (List.replicate n 0) := list_ext_nth (by simp [enc_len]) fun k hk => by
    have hk' : k < n + 3 := by simpa using hk
    have hz : ∀ m j, nth (List.replicate m (0 : Blk)) j = 0 ∨ m ≤ j := fun m j => by
      by_cases hj : j < m
      · left; rw [nth_eq (by simpa using hj)]; simp
      · right; omega
    rw [grp_gen _ (by simpa using hk'), (hz (n + 3) k).resolve_right (by omega)]
    refine (bsum_zero fun j hj => ?_).symm
    rw [(hz n j).resolve_right (by simpa using Nat.not_le_of_lt hj), Blk.mul_zero]
  rw [e]
  exact isGroup_enc (by simpa using h1) (by simpa using h2)
theorem Helps.inj {n : Nat} {fr : List Nat} (h : Helps n fr) (h1 : 1 ≤ n) (h2 : n ≤ 13) {x : Nat → G} (hx : ∀ i, i < n → gsum n (fun j => gen n (nth fr i) j * x j) = 0) : ∀ j, j < n → x j = 0 := fun j hj => by
  obtain ⟨ds, hds⟩ : ∃ ds : List Blk, ds = (List.range n).map fun j => Blk.of fun _ => x j := ⟨_, rfl⟩
  have hl : ds.length = n := by rw [hds]; simp
  have hnd : ∀ j, j < n → nth ds j = Blk.of fun _ => x j := fun j hj => by rw [hds]; exact nth_range _ hj
  have hg : isGroup (ds ++ enc ds) = true := isGroup_enc (by omega) (by omega)
  obtain ⟨a, b, c, ha, hb, hc, habc⟩ := h.three
  have hrl : (List.replicate (n + 3) (0 : Blk)).length = n + 3 := by simp
  have hz : ∀ j, j < n + 3 → nth (List.replicate (n + 3) (0 : Blk)) j = 0 := fun j hj => by rw [nth_eq (by simpa using hj)]; simp
  have key := near_groups (p := List.replicate (n + 3) (0 : Blk)) (q := ds ++ enc ds) (by omega) (by omega) (by rw [hrl, List.length_append, enc_len, hl]) (zero_group h1 h2) hg (a := a) (b := b) (c := c) (by omega) (by omega) (by omega) fun k hk k1 k2 k3 => by
    rw [hrl] at hk
    obtain ⟨i, hi, rfl⟩ := habc k hk k1 k2 k3
    rw [hz _ hk, grp_gen _ (by omega), hl]
    refine Blk.ext_at fun t ht => ?_
    rw [mulsum_at ht, Blk.zero_at ht, ← hx i hi]
    exact gsum_congr fun j hj => by rw [hnd j hj, Blk.of_at _ ht]
  have e : nth (ds ++ enc ds) j = nth (List.replicate (n + 3) (0 : Blk)) j := by rw [key]
  rw [hz j (by omega), nth_app, if_pos (by omega), hnd j hj] at e
  have : (Blk.of fun _ => x j).at 0 = (0 : Blk).at 0 := by rw [e]
  rwa [Blk.of_at _ (by omega), Blk.zero_at (by omega)] at this
theorem rows_shp {n : Nat} {fr : List Nat} (h : Helps n fr) : Shp (rowsM (genM n) fr) n n :=
  ⟨by rw [rowsM_len, h.len], fun i hi => by rw [rowsM_at (by rw [h.len]; exact hi)]; exact genM_rowlen (h.lt i hi)⟩
theorem rows_el {n : Nat} {fr : List Nat} (h : Helps n fr) {i j : Nat} (hi : i < n) (hj : j < n) : el (rowsM (genM n) fr) i j = gen n (nth fr i) j := by
  rw [← genM_el (h.lt i hi) hj]
  unfold el
  rw [rowsM_at (by rw [h.len]; exact hi)]
theorem Helps.inv {n : Nat} {fr : List Nat} (h : Helps n fr) (h1 : 1 ≤ n) (h2 : n ≤ 13) : ∃ v, invM (rowsM (genM n) fr) = some v := by
  cases e : invM (rowsM (genM n) fr) with
  | some v => exact ⟨v, rfl⟩
  | none =>
    obtain ⟨x, ⟨k, hk, hx⟩, hs⟩ := invM_none (rows_shp h) e
    exact absurd (h.inj h1 h2 (x := x) (fun i hi => by rw [← hs i hi]; exact gsum_congr fun j hj => by rw [rows_el h hi hj]) k hk) hx
def invOf (n : Nat) (fr : List Nat) : List (List G) := (invM (rowsM (genM n) fr)).getD []
def wts (n : Nat) (fr : List Nat) (to : Nat) : List G := (List.range n).map fun k => gsum n fun j => gen n to j * el (invOf n fr) j k
theorem wts_len (n : Nat) (fr : List Nat) (to : Nat) : (wts n fr to).length = n := by simp [wts]
theorem Helps.inv_eq {n : Nat} {fr : List Nat} (h : Helps n fr) (h1 : 1 ≤ n) (h2 : n ≤ 13) : invM (rowsM (genM n) fr) = some (invOf n fr) := by
  obtain ⟨v, hv⟩ := h.inv h1 h2
  rw [invOf, hv]; rfl
theorem Helps.solves {n : Nat} {fr : List Nat} (h : Helps n fr) (h1 : 1 ≤ n) (h2 : n ≤ 13) {to : Nat} {j : Nat} (hj : j < n) : gsum n (fun k => nth (wts n fr to) k * gen n (nth fr k) j) = gen n to j := by
  obtain ⟨_, hl, _⟩ := invM_some (rows_shp h) (h.inv_eq h1 h2)
  rw [gsum_congr (g := fun k => (gsum n fun i => gen n to i * el (invOf n fr) i k) * el (rowsM (genM n) fr) k j) fun k hk => by
    rw [rows_el h hk hj]; congr 1; exact nth_range _ hk]
  rw [gsum_assoc, gsum_congr (g := fun i => gen n to i * dlt i j) fun i hi => by rw [hl i hi j hj]]
  exact gsum_dlt' hj _
end Go.Proofs.Ytnkbnponpknokaa
namespace Go.Proofs.Ytnkbnponpknokaa
set_option maxRecDepth 20000
open Go.RowKit
def eqM (n : Nat) (fr : List Nat) (to : Nat) : List (List G) := (List.range n).map fun i => (List.range n).map (fun k => gen n (nth fr k) i) ++ [gen n to i]
structure RInv (W : Nat → G) (a : List (List G)) (n c : Nat) : Prop where
  shp : Shp a n (n + 1)
  sol : ∀ i, i < n → gsum n (fun k => el a i k * W k) = el a i n
  ker : ∀ x : Nat → G, (∀ i, i < n → gsum n (fun j => el a i j * x j) = 0) → ∀ j, j < n → x j = 0
  one : ∀ i, i < n → ∀ j, j < c → el a i j = dlt i j
variable {W : Nat → G} {a : List (List G)} {n c q : Nat}
theorem eqM_len (n : Nat) (fr : List Nat) (to : Nat) : (eqM n fr to).length = n := by simp [eqM]
theorem eqM_row {n : Nat} (fr : List Nat) (to : Nat) {i : Nat} (hi : i < n) : nth (eqM n fr to) i = (List.range n).map (fun k => gen n (nth fr k) i) ++ [gen n to i] := nth_range _ hi
theorem eqM_el {n : Nat} {fr : List Nat} {to i k : Nat} (hi : i < n) (hk : k < n) : el (eqM n fr to) i k = gen n (nth fr k) i := by
  unfold el
  rw [eqM_row _ _ hi, nth_app, if_pos (by simpa using hk)]; exact nth_range _ hk
theorem eqM_last {n : Nat} {fr : List Nat} {to i : Nat} (hi : i < n) : el (eqM n fr to) i n = gen n to i := by
  unfold el
  rw [eqM_row _ _ hi, nth_app, if_neg (by simp)]; simp [nth]
theorem eqM_inv {n : Nat} {fr : List Nat} (h : Helps n fr) (h1 : 1 ≤ n) (h2 : n ≤ 13) (to : Nat) : RInv (nth (wts n fr to)) (eqM n fr to) n 0 := by
  obtain ⟨_, _, hr⟩ := invM_some (rows_shp h) (h.inv_eq h1 h2)
  refine ⟨⟨eqM_len _ _ _, fun i hi => by rw [eqM_row _ _ hi]; simp⟩, fun i hi => ?_, fun x hx k hk => ?_, fun i _ j hj => absurd hj (by omega)⟩
  · rw [eqM_last hi, ← h.solves h1 h2 hi]
    exact gsum_congr fun k hk => by rw [eqM_el hi hk, G.mul_comm]
  · have e1 : gsum n (fun i => gsum n (fun j => x j * el (rowsM (genM n) fr) j i) * el (invOf n fr) i k) = x k := by
      rw [gsum_assoc, gsum_congr (g := fun j => x j * dlt j k) fun j hj => by rw [hr j hj k hk]]
      exact gsum_dlt' hk x
    rw [← e1]
    refine gsum_zero fun i hi => ?_
    have : gsum n (fun j => x j * el (rowsM (genM n) fr) j i) = 0 := by
      rw [← hx i hi]; exact gsum_congr fun j hj => by rw [eqM_el hi hj, rows_el h hj hi, G.mul_comm]
    rw [this, G.zero_mul]
theorem swp_rinv (h : RInv W a n c) (hc : c < n) (hq : q < n) (hcq : c ≤ q) : RInv W (swp a c q) n c := by
  have E := fun i j => swp_el h.shp hc hq i j
  refine ⟨swp_shp h.shp hc hq, fun i hi => ?_, fun x hx => h.ker x fun i hi => ?_, fun i hi j hj => ?_⟩
  · rw [E]
    by_cases e : i = q
    · rw [if_pos e, ← h.sol c hc]; exact gsum_congr fun k _ => by rw [E, if_pos e]
    · by_cases e2 : i = c
      · rw [if_neg e, if_pos e2, ← h.sol q hq]; exact gsum_congr fun k _ => by rw [E, if_neg e, if_pos e2]
      · rw [if_neg e, if_neg e2, ← h.sol i hi]; exact gsum_congr fun k _ => by rw [E, if_neg e, if_neg e2]
  · by_cases e2 : i = c
    · have := hx q hq
      rw [e2, ← this]; exact gsum_congr fun k _ => by rw [E, if_pos rfl]
    · by_cases e : i = q
      · have := hx c hc
        rw [e, ← this]
        refine gsum_congr fun k _ => ?_
        rw [E]
        by_cases e3 : c = q
        · rw [if_pos e3, e3]
        · rw [if_neg e3, if_pos rfl]
      · rw [← hx i hi]; exact gsum_congr fun k _ => by rw [E, if_neg e, if_neg e2]
  · rw [E]
    by_cases e : i = q
    · rw [if_pos e, h.one c hc j hj, dlt_ne (by omega), dlt_ne (by omega)]
    · by_cases e2 : i = c
      · rw [if_neg e, if_pos e2, h.one q hq j hj, dlt_ne (by omega), dlt_ne (by omega)]
      · rw [if_neg e, if_neg e2, h.one i hi j hj]
theorem nrm_rinv (h : RInv W a n c) (hc : c < n) (hp : el a c c ≠ 0) : RInv W (nrm a (n + 1) c) n c ∧ el (nrm a (n + 1) c) c c = 1 := by
  have E := fun i j (hj : j < n + 1) => nrm_el h.shp hc i hj
  have hm := mul_ginv hp
  refine ⟨⟨nrm_shp h.shp hc, fun i hi => ?_, fun x hx => h.ker x fun i hi => ?_, fun i hi j hj => ?_⟩, ?_⟩
  · rw [E i n (by omega)]
    by_cases e : i = c
    · rw [if_pos e, ← h.sol c hc, mul_gsum]; exact gsum_congr fun k hk => by rw [E i k (by omega), if_pos e, G.mul_assoc]
    · rw [if_neg e, ← h.sol i hi]; exact gsum_congr fun k hk => by rw [E i k (by omega), if_neg e]
  · by_cases e : i = c
    · have h1 := hx c hc
      have h2 : gsum n (fun j => el (nrm a (n + 1) c) c j * x j) = ginv (el a c c) * gsum n (fun j => el a c j * x j) := by
        rw [mul_gsum]; exact gsum_congr fun k hk => by rw [E c k (by omega), if_pos rfl, G.mul_assoc]
      rw [h2] at h1
      rcases mul_eq_zero_iff.1 h1 with h3 | h3
      · exact absurd h3 (ginv_ne hp)
      · rw [e]; exact h3
    · rw [← hx i hi]; exact gsum_congr fun k hk => by rw [E i k (by omega), if_neg e]
  · rw [E i j (by omega)]
    by_cases e : i = c
    · rw [if_pos e, h.one c hc j hj, dlt_ne (by omega), G.mul_zero, dlt_ne (by omega)]
    · rw [if_neg e, h.one i hi j hj]
  · rw [E c c (by omega), if_pos rfl, G.mul_comm]; exact hm
theorem elm_rinv (h : RInv W a n c) (hc : c < n) (hp : el a c c = 1) : RInv W (elm a n c n) n (c + 1) := by
  have E := fun i j (hi : i < n) (hj : j < n + 1) => elm_el h.shp hc hi hj
  refine ⟨elm_shp h.shp hc, fun i hi => ?_, fun x hx => h.ker x fun i hi => ?_, fun i hi j hj => ?_⟩
  · rw [E i n hi (by omega)]
    by_cases e : i = c
    · rw [if_pos e, ← h.sol c hc]; exact gsum_congr fun k hk => by rw [E i k hi (by omega), if_pos e]
    · rw [if_neg e, ← h.sol i hi, ← h.sol c hc, mul_gsum, ← gsum_add]; exact gsum_congr fun k hk => by rw [E i k hi (by omega), if_neg e, G.add_mul, G.mul_assoc]
  · have h1 : gsum n (fun j => el a c j * x j) = 0 := by
      rw [← hx c hc]; exact gsum_congr fun k hk => by rw [E c k hc (by omega), if_pos rfl]
    by_cases e : i = c
    · rw [e]; exact h1
    · have h2 := hx i hi
      have h3 : gsum n (fun j => el (elm a n c n) i j * x j) = gsum n (fun j => el a i j * x j) + el a i c * gsum n (fun j => el a c j * x j) := by
        rw [mul_gsum, ← gsum_add]; exact gsum_congr fun k hk => by rw [E i k hi (by omega), if_neg e, G.add_mul, G.mul_assoc]
      rw [h3, h1, G.mul_zero, G.add_zero] at h2
      exact h2
  · rw [E i j hi (by omega)]
    by_cases e : i = c
    · rw [if_pos e, e]
      by_cases e2 : j = c
      · rw [e2, hp, dlt_self]
      · exact h.one c hc j (by omega)
    · rw [if_neg e]
      by_cases e2 : j = c
      · rw [e2, hp, G.mul_one, G.add_self, dlt_ne e]
      · rw [h.one i hi j (by omega), h.one c hc j (by omega), dlt_ne (i := c) (by omega), G.mul_zero, G.add_zero]
theorem rpvt (h : RInv W a n c) (hc : c < n) : ∃ q, pvt a n c = some q := by
  cases e : pvt a n c with
  | some q => exact ⟨q, rfl⟩
  | none =>
    have hz : ∀ i, c ≤ i → i < n → el a i c = 0 := fun i h1 h2 => by
      have := fnd_none e (i - c) (by omega)
      rw [show c + (i - c) = i from by omega] at this
      exact nz_f.1 this
    have := h.ker (fun j => if j < c then el a j c else dlt j c) (fun i hi => ?_) c hc
    · rw [if_neg (by omega), dlt_self] at this; exact absurd this one_ne_zero
    · rw [gsum_congr (g := fun j => (if j = c then el a i c else 0) + dlt i j * (if j < c then el a j c else 0)) fun j hj => ?_, gsum_add, gsum_dlt hi, gsum_one hc (f := fun j => if j = c then el a i c else 0) fun k _ hk => if_neg hk, if_pos rfl]
      · by_cases e2 : i < c
        · rw [if_pos e2, G.add_self]
        · rw [if_neg e2, hz i (by omega) hi, G.add_zero]
      · by_cases e2 : j < c
        · rw [if_pos e2, if_pos e2, if_neg (by omega), G.zero_add, h.one i hi j e2]
        · rw [if_neg e2, if_neg e2, G.mul_zero, G.add_zero]
          by_cases e3 : j = c
          · rw [if_pos e3, e3, dlt_self, G.mul_one]
          · rw [if_neg e3, dlt_ne e3, G.mul_zero]
def rstp (a : List (List G)) (n c q : Nat) : List (List G) := elm (nrm (swp a c (c + q)) (n + 1) c) n c n
theorem rstp_inv (h : RInv W a n c) (hc : c < n) (hq : pvt a n c = some q) : c + q < n ∧ RInv W (swp a c (c + q)) n c ∧ el (swp a c (c + q)) c c ≠ 0 ∧ RInv W (rstp a n c q) n (c + 1) := by
  obtain ⟨h1, h2, _⟩ := fnd_some hq
  have hcq : c + q < n := by omega
  have hs := swp_rinv h hc hcq (by omega)
  have hp : el (swp a c (c + q)) c c ≠ 0 := by
    rw [swp_el h.shp hc hcq]
    have h3 := nz_t.1 h2
    by_cases e : c = c + q
    · rw [if_pos e]; rw [← e] at h3; exact h3
    · rw [if_neg e, if_pos rfl]; exact h3
  obtain ⟨hn, h1'⟩ := nrm_rinv hs hc hp
  exact ⟨hcq, hs, hp, elm_rinv hn hc h1'⟩
theorem RInv.out (h : RInv W a n n) {i : Nat} (hi : i < n) : el a i n = W i := by
  rw [← h.sol i hi, gsum_congr (g := fun k => dlt i k * W k) fun k hk => by rw [h.one i hi k hk]]
  exact gsum_dlt hi W
end Go.Proofs.Ytnkbnponpknokaa
namespace Go.Proofs.Ytnkbnponpknokaa
set_option maxRecDepth 20000
open Go.RowKit
attribute [local irreducible] Calls
end Go.Proofs.Ytnkbnponpknokaa
namespace Go.Proofs.Ytnkbnponpknokaa
set_option maxRecDepth 20000
open Go.RowKit
attribute [local irreducible] Calls
def synP (ps : List Blk) (m : Nat) : List Blk := (List.range 3).map fun j => if j < m then nth (enc (ps.take (ps.length - 3))) j + nth ps (ps.length - 3 + j) else nth (enc (ps.take (ps.length - 3))) j
def synL (ps : List Blk) : List Blk := synP ps 3
end Go.Proofs.Ytnkbnponpknokaa
namespace Go.Proofs.Ytnkbnponpknokaa
set_option maxRecDepth 20000
open Go.RowKit
attribute [local irreducible] Calls
theorem Imp.rows_join (r1 r2 : List Row) (L : List Asrt) : Imp (rowsA r1 :: rowsA r2 :: L) (rowsA (r1 ++ r2) :: L) := by
  refine Imp.trans (Imp.unbun _ _) ?_
  refine Imp.trans (Imp.perm (M := rowsA r2 :: (r1.map Row.own ++ L)) List.perm_middle) ?_
  refine Imp.trans (Imp.unbun _ _) ?_
  refine Imp.trans (Imp.perm (M := (r1 ++ r2).map Row.own ++ L) ?_) (Imp.bun _ _)
  rw [List.map_append, ← List.append_assoc]
  exact List.perm_append_comm.append_right _
theorem matrix_m (n : Nat) (w : World) (h1 : 1 ≤ n) (h2 : n ≤ 13) : Calls Try.prog 98 #[iv n] w fun e w' => ∃ v' M, e = .returned v' ∧ H w M w' ∧
    ∃ A c rs, v' = .tuple #[.slice A rs.length c, iv 0] ∧ M = matM A c rs ∧ els rs = matx n ∧ rs.length = 3 :=
  (matrix_n n w h1 h2).mono fun e w' ⟨v', M, he, hM, A, c, rs, hv, hM2, hr, hl⟩ => ⟨v', matM A c rs, he, by
    subst hM2
    refine Imp.h (Imp.cons ?_) hM
    have := Imp.rows_of rs []
    rwa [List.append_nil] at this, A, c, rs, by rw [hl]; exact hv, rfl, hr, hl⟩
set_option maxHeartbeats 1000000 in
theorem generator_n (m n : Nat) (w : World) (hm : m = n + 3) (h1 : 1 ≤ n) (h2 : n ≤ 13) : Calls Try.prog 92 #[iv m] w fun e w' => ∃ v' M, e = .returned v' ∧ H w M w' ∧
    ∃ A c rs, v' = .slice A rs.length c ∧ M = matM A c rs ∧ els rs = genM n ∧ rs.length = m := by
  have hsub : IntKind.i64.wrap ((m : Int) - 3) = (n : Int) := by rw [IntWalk.i64_in _ (by omega)]; omega
  refine calls_wc (args := [iv m]) [2] [] Try.func92 rfl Try.ntmps92 rfl rfl rfl rfl (H.refl w) ?_
  refine WC.seq fun K hK => ?_
  refine WC.region rfl ?_
  refine wG rfl rfl (g_assign rfl (.mk (v := .slice _ _ _) rfl rfl)) ?_
  refine WL.nil ?_
  (refine hK _ _ ?_; clear hK)
  refine WC.seq fun K hK => ?_
  refine WC.region rfl ?_
  refine wG rfl rfl (g_move rfl (.mk (v := .int _ _) rfl rfl)) ?_
  refine wG rfl rfl (g_sub rfl (.mk rfl rfl) (.mk rfl rfl) hsub) ?_
  (refine WL.want rfl (WL1.callN rfl rfl rfl (.cons (.mk (v := .int _ _) rfl rfl) .nil) (fun w hw => identity_n n w (by omega) (by omega)) ?_); rintro _ _ ⟨A1, c1, r1, rfl, rfl, hr1, hl1⟩)
  refine wG rfl rfl (g_move rfl (.mk (v := .tuple _) rfl rfl)) ?_
  refine wG rfl rfl (g_extract rfl (.mk rfl rfl) rfl) ?_
  refine wG rfl rfl (g_extract rfl (.mk rfl rfl) rfl) ?_
  refine wG rfl rfl (g_assign rfl (.mk (v := .slice _ _ _) rfl rfl)) ?_
  refine wG rfl rfl (g_assign rfl (.mk (v := .int _ _) rfl rfl)) ?_
  refine WL.nil ?_
  (refine hK _ _ ?_; clear hK)
  refine WC.seq fun K hK => ?_
  refine WC.region rfl ?_
  refine wG rfl rfl (g_move rfl (.mk (v := .int _ _) rfl rfl)) ?_
  refine wG rfl rfl (g_sub rfl (.mk rfl rfl) (.mk rfl rfl) hsub) ?_
  (refine WL.want rfl (WL1.callN rfl rfl rfl (.cons (.mk (v := .int _ _) rfl rfl) .nil) (fun w hw => matrix_m n w h1 h2) ?_); rintro _ _ ⟨A2, c2, r2, rfl, rfl, hr2, hl2⟩)
  refine wG rfl rfl (g_move rfl (.mk (v := .tuple _) rfl rfl)) ?_
  refine wG rfl rfl (g_extract rfl (.mk rfl rfl) rfl) ?_
  refine wG rfl rfl (g_extract rfl (.mk rfl rfl) rfl) ?_
  refine wG rfl rfl (g_assign rfl (.mk (v := .slice _ _ _) rfl rfl)) ?_
  refine wG rfl rfl (g_assign rfl (.mk (v := .int _ _) rfl rfl)) ?_
  refine WL.nil ?_
  (refine hK _ _ ?_; clear hK)
  refine WC.seq fun K hK => ?_
  refine WC.region rfl ?_
  refine wG rfl rfl (g_move rfl (.mk (v := .slice _ _ _) rfl rfl)) ?_
  refine wG rfl rfl (g_move rfl (.mk (v := .slice _ _ _) rfl rfl)) ?_
  refine WL.want rfl (WL1.append elR rfl rfl (.mk rfl rfl) (.mk rfl rfl) (.tail (.tail (.head))) (fun w hw => Sl.of_vec hw (.head _)) (rowv_one _) (by unfold maxLen; omega) (by omega) (fun A21 c21 => ?_))
  refine wG rfl rfl (g_assign rfl (.mk (v := .slice _ _ _) rfl rfl)) ?_
  refine WL.nil ?_
  (refine hK _ _ ?_; clear hK)
  refine WC.ret ?_
  have hel : els (r1 ++ r2) = genM n := by unfold els at *; rw [List.map_append, hr1, hr2]; rfl
  have hln : (r1 ++ r2).length = m := by rw [List.length_append, hl1, hl2, hm]
  refine fun w' hw' => ⟨_, matM A21 c21 (r1 ++ r2), rfl, ?_, A21, c21, r1 ++ r2, by rw [List.length_append]; rfl, rfl, hel, hln⟩
  refine Imp.h ?_ hw'
  rw [matM, List.length_append, List.map_append]
  refine Imp.cons ?_
  refine Imp.trans (M := rowsA r1 :: rowsA r2 :: []) ?_ (Imp.rows_join r1 r2 [])
  exact Imp.pick (by repeat (first | exact .head | apply Take.tail)) (Imp.pick (by repeat (first | exact .head | apply Take.tail)) (Imp.nil _))
set_option maxHeartbeats 1000000 in
theorem possible_i (z : Int) (w : World) : Calls Try.prog 85 #[iv z] w fun e w' => e = .returned (.bool (decide (4 ≤ z ∧ z ≤ 16))) ∧ Below w.heap.size w w' := by
  by_cases h1 : 3 < z
  · by_cases h2 : z ≤ 16
    · refine calls_wc (args := [iv z]) [2] [] Try.func85 rfl Try.ntmps85 rfl rfl rfl rfl (H.refl w) ?_
      refine WC.seq fun K hK => ?_
      refine WC.region rfl ?_
      refine wG rfl rfl (g_assign rfl (.mk (v := .bool _) rfl rfl)) ?_
      refine WL.nil ?_
      (refine hK _ _ ?_; clear hK)
      refine WC.seq fun K hK => ?_
      refine WC.region rfl ?_
      refine wG rfl rfl (g_move rfl (.mk (v := .int _ _) rfl rfl)) ?_
      refine wG rfl rfl (g_gt rfl (.mk rfl rfl) (.mk rfl rfl) (decide_eq_true (by omega))) ?_
      refine wG rfl rfl (g_move rfl (.mk (v := .bool _) rfl rfl)) ?_
      refine WL.wantG rfl rfl rfl rfl (WL1.give rfl (g_move rfl (.mk (v := .int _ _) rfl rfl)) ?_)
      refine WL.wantG rfl rfl rfl rfl (WL1.give rfl (g_le rfl (.mk rfl rfl) (.mk rfl rfl) (decide_eq_true (by omega))) ?_)
      refine wG rfl rfl (g_pickT rfl (.mk rfl rfl) (.mk (v := .bool _) rfl rfl)) ?_
      refine wG rfl rfl (g_assign rfl (.mk (v := .bool _) rfl rfl)) ?_
      refine WL.nil ?_
      (refine hK _ _ ?_; clear hK)
      refine WC.ret ?_
      exact fun w' hw' => ⟨by rw [decide_eq_true (show 4 ≤ z ∧ z ≤ 16 by omega)]; rfl, hw'.1⟩
    · refine calls_wc (args := [iv z]) [2] [] Try.func85 rfl Try.ntmps85 rfl rfl rfl rfl (H.refl w) ?_
      refine WC.seq fun K hK => ?_
      refine WC.region rfl ?_
      refine wG rfl rfl (g_assign rfl (.mk (v := .bool _) rfl rfl)) ?_
      refine WL.nil ?_
      (refine hK _ _ ?_; clear hK)
      refine WC.seq fun K hK => ?_
      refine WC.region rfl ?_
      refine wG rfl rfl (g_move rfl (.mk (v := .int _ _) rfl rfl)) ?_
      refine wG rfl rfl (g_gt rfl (.mk rfl rfl) (.mk rfl rfl) (decide_eq_true (by omega))) ?_
      refine wG rfl rfl (g_move rfl (.mk (v := .bool _) rfl rfl)) ?_
      refine WL.wantG rfl rfl rfl rfl (WL1.give rfl (g_move rfl (.mk (v := .int _ _) rfl rfl)) ?_)
      refine WL.wantG rfl rfl rfl rfl (WL1.give rfl (g_le rfl (.mk rfl rfl) (.mk rfl rfl) (decide_eq_false (by omega))) ?_)
      refine wG rfl rfl (g_pickT rfl (.mk rfl rfl) (.mk (v := .bool _) rfl rfl)) ?_
      refine wG rfl rfl (g_assign rfl (.mk (v := .bool _) rfl rfl)) ?_
      refine WL.nil ?_
      (refine hK _ _ ?_; clear hK)
      refine WC.ret ?_
      exact fun w' hw' => ⟨by rw [decide_eq_false fun h => h2 h.2]; rfl, hw'.1⟩
  · refine calls_wc (args := [iv z]) [2] [] Try.func85 rfl Try.ntmps85 rfl rfl rfl rfl (H.refl w) ?_
    refine WC.seq fun K hK => ?_
    refine WC.region rfl ?_
    refine wG rfl rfl (g_assign rfl (.mk (v := .bool _) rfl rfl)) ?_
    refine WL.nil ?_
    (refine hK _ _ ?_; clear hK)
    refine WC.seq fun K hK => ?_
    refine WC.region rfl ?_
    refine wG rfl rfl (g_move rfl (.mk (v := .int _ _) rfl rfl)) ?_
    refine wG rfl rfl (g_gt rfl (.mk rfl rfl) (.mk rfl rfl) (decide_eq_false (by omega))) ?_
    refine wG rfl rfl (g_move rfl (.mk (v := .bool _) rfl rfl)) ?_
    refine WL.skipG rfl rfl rfl rfl rfl rfl ?_
    refine WL.skipG rfl rfl rfl rfl rfl rfl ?_
    refine wG rfl rfl (g_pickF rfl (.mk rfl rfl) (.mk (v := .bool _) rfl rfl)) ?_
    refine wG rfl rfl (g_assign rfl (.mk (v := .bool _) rfl rfl)) ?_
    refine WL.nil ?_
    (refine hK _ _ ?_; clear hK)
    refine WC.ret ?_
    exact fun w' hw' => ⟨by rw [decide_eq_false fun h => h1 (by omega)]; rfl, hw'.1⟩
structure Wfr (n : Nat) (fr : List Nat) : Prop where
  len : fr.length = n
  lt : ∀ i, i < n → nth fr i < n + 3
  inc : ∀ i, i + 1 < n → nth fr i < nth fr (i + 1)
theorem incr_lt {fr : List Nat} {n : Nat} (inc : ∀ i, i + 1 < n → nth fr i < nth fr (i + 1)) : ∀ d i, i + d + 1 < n → nth fr i < nth fr (i + d + 1)
  | 0, i, h => inc i h
  | d + 1, i, h => Nat.lt_trans (incr_lt inc d i (by omega)) (inc (i + d + 1) (by omega))
theorem Wfr.helps {n : Nat} {fr : List Nat} (h : Wfr n fr) : Helps n fr := by
  refine ⟨h.len, h.lt, ?_⟩
  rw [List.nodup_iff_pairwise_ne, List.pairwise_iff_getElem]
  intro i j hi hj hij
  have := incr_lt h.inc (j - i - 1) i (by rw [← h.len]; omega)
  rw [show i + (j - i - 1) + 1 = j from by omega, nth_eq hi, nth_eq hj] at this
  omega
theorem mul_row {n : Nat} {rs : List Row} {fr : List Nat} (h : Helps n fr) (h1 : 1 ≤ n) (h2 : n ≤ 13) (hr : els rs = genM n) (hl : rs.length = n + 3) {to : Nat} (hto : to < n + 3) : mulM (els [nth rs to]) (invOf n fr) = [wts n fr to] := by
  obtain ⟨hs, _, _⟩ := invM_some (rows_shp h) (h.inv_eq h1 h2)
  have e1 : els [nth rs to] = [nth (genM n) to] := by unfold els; rw [List.map_cons, List.map_nil, els_row hr (by omega)]
  rw [e1, mulM]
  show [mrow _ _ _ 0 _] = _
  rw [mrow, hs.1, hs.2 0 (by omega), wts]
  congr 1
  refine List.map_congr_left fun k _ => gsum_congr fun j hj => ?_
  rw [← genM_el hto hj]; rfl
set_option maxHeartbeats 4000000 in
theorem weights_n (v : Value) (m n to : Nat) (fr : List Nat) (w : World) (hv : Sl w 1 v fr.length (ldv fr)) (hm : m = n + 3) (h1 : 1 ≤ n) (h2 : n ≤ 13) (hfr : Wfr n fr) (hto : to < m) :
    Calls Try.prog 86 #[iv m, v, iv to] w fun e w' => ∃ v' M, e = .returned v' ∧ H w M w' ∧ ∃ A c, v' = .tuple #[.slice A n c, iv 0] ∧ M = [vec A n c 5 1 (bvs (wts n fr to))] := by
  obtain ⟨A, c, rfl, hcc, hmm, hs⟩ := hv.open_
  have hfl := hfr.len
  have hsub : IntKind.i64.wrap ((m : Int) - 3) = (n : Int) := by rw [IntWalk.i64_in _ (by omega)]; omega
  have hpos : ∀ w', Calls Try.prog 85 #[iv m] w' fun e w2 => e = .returned (.bool true) ∧ Below w'.heap.size w' w2 := fun w' => by
    have := possible_i m w'
    rwa [decide_eq_true (by omega)] at this
  refine calls_wc (args := [iv m, .slice A fr.length c, iv to]) [6, 7] [] Try.func86 rfl Try.ntmps86 rfl rfl rfl rfl (H.refl w) ?_
  refine WC.seq fun K hK => ?_
  refine WC.region rfl ?_
  refine wG rfl rfl (g_assign rfl (.mk (v := .slice _ _ _) rfl rfl)) ?_
  refine wG rfl rfl (g_assign rfl (.mk (v := .int _ _) rfl rfl)) ?_
  refine WL.nil ?_
  (refine hK _ _ ?_; clear hK)
  refine WC.seq fun K hK => ?_
  refine WC.seq fun K hK => ?_
  refine WC.region rfl ?_
  refine wG rfl rfl (g_move rfl (.mk (v := .int _ _) rfl rfl)) ?_
  refine WL.want rfl (WL1.callP rfl rfl rfl (.cons (.mk (v := .int _ _) rfl rfl) .nil) (fun w hw => hpos w) ?_)
  refine wG rfl rfl (g_notT rfl (.mk rfl rfl)) ?_
  refine wG rfl rfl (g_move rfl (.mk (v := .bool _) rfl rfl)) ?_
  refine WL.wantG rfl rfl rfl rfl (WL1.give rfl (g_move rfl (.mk (v := .slice _ _ _) rfl rfl)) ?_)
  refine WL.wantG rfl rfl rfl rfl (WL1.give rfl (g_len rfl (.mk rfl rfl) rfl) ?_)
  refine WL.wantG rfl rfl rfl rfl (WL1.give rfl (g_move rfl (.mk (v := .int _ _) rfl rfl)) ?_)
  refine WL.wantG rfl rfl rfl rfl (WL1.give rfl (g_sub rfl (.mk rfl rfl) (.mk rfl rfl) hsub) ?_)
  refine WL.wantG rfl rfl rfl rfl (WL1.give rfl (g_ne rfl (.mk rfl rfl) (.mk rfl rfl) (decide_eq_false (by omega))) ?_)
  refine wG rfl rfl (g_pickF rfl (.mk rfl rfl) (.mk (v := .bool _) rfl rfl)) ?_
  refine wG rfl rfl (g_move rfl (.mk (v := .bool _) rfl rfl)) ?_
  refine WL.wantG rfl rfl rfl rfl (WL1.give rfl (g_move rfl (.mk (v := .int _ _) rfl rfl)) ?_)
  refine WL.wantG rfl rfl rfl rfl (WL1.give rfl (g_lt rfl (.mk rfl rfl) (.mk rfl rfl) (decide_eq_false (by omega))) ?_)
  refine wG rfl rfl (g_pickF rfl (.mk rfl rfl) (.mk (v := .bool _) rfl rfl)) ?_
  refine wG rfl rfl (g_move rfl (.mk (v := .bool _) rfl rfl)) ?_
  refine WL.wantG rfl rfl rfl rfl (WL1.give rfl (g_move rfl (.mk (v := .int _ _) rfl rfl)) ?_)
  refine WL.wantG rfl rfl rfl rfl (WL1.give rfl (g_move rfl (.mk (v := .int _ _) rfl rfl)) ?_)
  refine WL.wantG rfl rfl rfl rfl (WL1.give rfl (g_ge rfl (.mk rfl rfl) (.mk rfl rfl) (decide_eq_false (by omega))) ?_)
  refine wG rfl rfl (g_pickF rfl (.mk rfl rfl) (.mk (v := .bool _) rfl rfl)) ?_
  refine WL.nil ?_
  (refine hK _ _ ?_; clear hK)
  refine WC.cond_false (.mk rfl rfl) ?_
  refine WC.skip ?_
  (refine hK _ _ ?_; clear hK)
  refine WC.seq fun K hK => ?_
  refine WC.seq fun K hK => ?_
  refine WC.region rfl ?_
  refine wG rfl rfl (g_move rfl (.mk (v := .slice _ _ _) rfl rfl)) ?_
  refine wG rfl rfl (g_len rfl (.mk rfl rfl) rfl) ?_
  refine wG rfl rfl (g_move rfl (.mk (v := .int _ _) rfl rfl)) ?_
  refine WL.nil ?_
  (refine hK _ _ ?_; clear hK)
  refine WC.block ?_
  refine WC.loop (36893487597663290304) (fun i : Nat => [(39, iv i)]) (fun _ => []) (fun i => i ≤ n) (fun i => n - i) 0 ⟨rfl, trivial⟩ (List.nil_sublist _) (by omega) ?_
  · intro i U hi
    by_cases hlt : i < n
    · have hgv := ldv_get (ld := fr) (k := i) (by omega)
      have hil := hfr.lt i hlt
      by_cases hi0 : i = 0
      · subst hi0
        refine WC.seq fun K hK => ?_
        refine WC.region rfl ?_
        refine wG rfl rfl (g_lt rfl (.mk rfl rfl) (.mk rfl rfl) (decide_eq_true (by omega))) ?_
        refine WL.nil ?_
        (refine hK _ _ ?_; clear hK)
        refine WC.seq fun K hK => ?_
        refine WC.cond_true (.mk rfl rfl) ?_
        refine WC.skip ?_
        (refine hK _ _ ?_; clear hK)
        refine WC.seq fun K hK => ?_
        refine WC.block ?_
        refine WC.seq fun K hK => ?_
        refine WC.region rfl ?_
        refine wG rfl rfl (g_move rfl (.mk (v := .int _ _) rfl rfl)) ?_
        refine wG rfl rfl (g_indexAddr (sz := 1) rfl (.mk rfl rfl) (.mk rfl rfl) rfl rfl (show _ = ((0 : Nat) : Int) from rfl) (by omega) (fun _ _ => sl_some hs (by omega))) ?_
        refine wG rfl rfl (g_load rfl (.mk rfl rfl) rfl (rd_sl hs hgv)) ?_
        refine wG rfl rfl (g_assign rfl (.mk (v := .int _ _) rfl rfl)) ?_
        refine wG rfl rfl (g_assign rfl (.mk (v := .int _ _) rfl rfl)) ?_
        refine WL.nil ?_
        (refine hK _ _ ?_; clear hK)
        refine WC.seq fun K hK => ?_
        refine WC.region rfl ?_
        refine wG rfl rfl (g_move rfl (.mk (v := .int _ _) rfl rfl)) ?_
        refine wG rfl rfl (g_lt rfl (.mk rfl rfl) (.mk rfl rfl) (decide_eq_false (by omega))) ?_
        refine wG rfl rfl (g_move rfl (.mk (v := .bool _) rfl rfl)) ?_
        refine WL.wantG rfl rfl rfl rfl (WL1.give rfl (g_move rfl (.mk (v := .int _ _) rfl rfl)) ?_)
        refine WL.wantG rfl rfl rfl rfl (WL1.give rfl (g_move rfl (.mk (v := .int _ _) rfl rfl)) ?_)
        refine WL.wantG rfl rfl rfl rfl (WL1.give rfl (g_ge rfl (.mk rfl rfl) (.mk rfl rfl) (decide_eq_false (by omega))) ?_)
        refine wG rfl rfl (g_pickF rfl (.mk rfl rfl) (.mk (v := .bool _) rfl rfl)) ?_
        refine wG rfl rfl (g_move rfl (.mk (v := .bool _) rfl rfl)) ?_
        refine WL.wantG rfl rfl rfl rfl (WL1.give rfl (g_move rfl (.mk (v := .int _ _) rfl rfl)) ?_)
        refine WL.wantG rfl rfl rfl rfl (WL1.give rfl (g_gt rfl (.mk rfl rfl) (.mk rfl rfl) (decide_eq_false (by omega))) ?_)
        refine WL.wantG rfl rfl rfl rfl (WL1.give rfl (g_move rfl (.mk (v := .bool _) rfl rfl)) ?_)
        refine WL.skipG rfl rfl rfl rfl rfl rfl ?_
        refine WL.skipG rfl rfl rfl rfl rfl rfl ?_
        refine WL.skipG rfl rfl rfl rfl rfl rfl ?_
        refine WL.skipG rfl rfl rfl rfl rfl rfl ?_
        refine WL.skipG rfl rfl rfl rfl rfl rfl ?_
        refine WL.skipG rfl rfl rfl rfl rfl rfl ?_
        refine WL.skipG rfl rfl rfl rfl rfl rfl ?_
        refine WL.wantG rfl rfl rfl rfl (WL1.give rfl (g_pickF rfl (.mk rfl rfl) (.mk (v := .bool _) rfl rfl)) ?_)
        refine wG rfl rfl (g_pickF rfl (.mk rfl rfl) (.mk (v := .bool _) rfl rfl)) ?_
        refine WL.nil ?_
        (refine hK _ _ ?_; clear hK)
        refine WC.cond_false (.mk rfl rfl) ?_
        refine WC.skip ?_
        (refine hK _ _ ?_; clear hK)
        refine WC.region rfl ?_
        refine wG rfl rfl (g_add rfl (.mk rfl rfl) (.mk rfl rfl) (IntWalk.i64_in _ (by omega))) ?_
        refine wG rfl rfl (g_move rfl (.mk (v := .int _ _) rfl rfl)) ?_
        refine WL.nil ?_
        exact ⟨0 + 1, (by repeat (first | with_reducible exact Out.refl _ _ | refine Out.set rfl ?_ | refine Out.put rfl ?_ | refine Out.sets rfl ?_ | refine Out.hav rfl ?_ | exact Out.refl _ _)), ⟨rfl, trivial⟩, .refl _, by omega, by omega⟩
      · have hsb : IntKind.i64.wrap ((i : Int) - 1) = ((i - 1 : Nat) : Int) := by rw [IntWalk.i64_in _ (by omega)]; omega
        have hgv2 := ldv_get (ld := fr) (k := i - 1) (by omega)
        have hic := hfr.inc (i - 1) (by omega)
        rw [show i - 1 + 1 = i from by omega] at hic
        refine WC.seq fun K hK => ?_
        refine WC.region rfl ?_
        refine wG rfl rfl (g_lt rfl (.mk rfl rfl) (.mk rfl rfl) (decide_eq_true (by omega))) ?_
        refine WL.nil ?_
        (refine hK _ _ ?_; clear hK)
        refine WC.seq fun K hK => ?_
        refine WC.cond_true (.mk rfl rfl) ?_
        refine WC.skip ?_
        (refine hK _ _ ?_; clear hK)
        refine WC.seq fun K hK => ?_
        refine WC.block ?_
        refine WC.seq fun K hK => ?_
        refine WC.region rfl ?_
        refine wG rfl rfl (g_move rfl (.mk (v := .int _ _) rfl rfl)) ?_
        refine wG rfl rfl (g_indexAddr (sz := 1) rfl (.mk rfl rfl) (.mk rfl rfl) rfl rfl rfl (by omega) (fun _ _ => sl_some hs (by omega))) ?_
        refine wG rfl rfl (g_load rfl (.mk rfl rfl) rfl (rd_sl hs hgv)) ?_
        refine wG rfl rfl (g_assign rfl (.mk (v := .int _ _) rfl rfl)) ?_
        refine wG rfl rfl (g_assign rfl (.mk (v := .int _ _) rfl rfl)) ?_
        refine WL.nil ?_
        (refine hK _ _ ?_; clear hK)
        refine WC.seq fun K hK => ?_
        refine WC.region rfl ?_
        refine wG rfl rfl (g_move rfl (.mk (v := .int _ _) rfl rfl)) ?_
        refine wG rfl rfl (g_lt rfl (.mk rfl rfl) (.mk rfl rfl) (decide_eq_false (by omega))) ?_
        refine wG rfl rfl (g_move rfl (.mk (v := .bool _) rfl rfl)) ?_
        refine WL.wantG rfl rfl rfl rfl (WL1.give rfl (g_move rfl (.mk (v := .int _ _) rfl rfl)) ?_)
        refine WL.wantG rfl rfl rfl rfl (WL1.give rfl (g_move rfl (.mk (v := .int _ _) rfl rfl)) ?_)
        refine WL.wantG rfl rfl rfl rfl (WL1.give rfl (g_ge rfl (.mk rfl rfl) (.mk rfl rfl) (decide_eq_false (by omega))) ?_)
        refine wG rfl rfl (g_pickF rfl (.mk rfl rfl) (.mk (v := .bool _) rfl rfl)) ?_
        refine wG rfl rfl (g_move rfl (.mk (v := .bool _) rfl rfl)) ?_
        refine WL.wantG rfl rfl rfl rfl (WL1.give rfl (g_move rfl (.mk (v := .int _ _) rfl rfl)) ?_)
        refine WL.wantG rfl rfl rfl rfl (WL1.give rfl (g_gt rfl (.mk rfl rfl) (.mk rfl rfl) (decide_eq_true (by omega))) ?_)
        refine WL.wantG rfl rfl rfl rfl (WL1.give rfl (g_move rfl (.mk (v := .bool _) rfl rfl)) ?_)
        refine WL.wantG rfl rfl rfl rfl (WL1.give rfl (g_move rfl (.mk (v := .slice _ _ _) rfl rfl)) ?_)
        refine WL.wantG rfl rfl rfl rfl (WL1.give rfl (g_move rfl (.mk (v := .int _ _) rfl rfl)) ?_)
        refine WL.wantG rfl rfl rfl rfl (WL1.give rfl (g_sub rfl (.mk rfl rfl) (.mk rfl rfl) hsb) ?_)
        refine WL.wantG rfl rfl rfl rfl (WL1.give rfl (g_indexAddr (sz := 1) rfl (.mk rfl rfl) (.mk rfl rfl) rfl rfl rfl (by omega) (fun _ _ => sl_some hs (by omega))) ?_)
        refine WL.wantG rfl rfl rfl rfl (WL1.give rfl (g_load rfl (.mk rfl rfl) rfl (rd_sl hs hgv2)) ?_)
        refine WL.wantG rfl rfl rfl rfl (WL1.give rfl (g_move rfl (.mk (v := .int _ _) rfl rfl)) ?_)
        refine WL.wantG rfl rfl rfl rfl (WL1.give rfl (g_ge rfl (.mk rfl rfl) (.mk rfl rfl) (decide_eq_false (by omega))) ?_)
        refine WL.wantG rfl rfl rfl rfl (WL1.give rfl (g_pickT rfl (.mk rfl rfl) (.mk (v := .bool _) rfl rfl)) ?_)
        refine wG rfl rfl (g_pickF rfl (.mk rfl rfl) (.mk (v := .bool _) rfl rfl)) ?_
        refine WL.nil ?_
        (refine hK _ _ ?_; clear hK)
        refine WC.cond_false (.mk rfl rfl) ?_
        refine WC.skip ?_
        (refine hK _ _ ?_; clear hK)
        refine WC.region rfl ?_
        refine wG rfl rfl (g_add rfl (.mk rfl rfl) (.mk rfl rfl) (IntWalk.i64_in _ (by omega))) ?_
        refine wG rfl rfl (g_move rfl (.mk (v := .int _ _) rfl rfl)) ?_
        refine WL.nil ?_
        exact ⟨i + 1, (by repeat (first | with_reducible exact Out.refl _ _ | refine Out.set rfl ?_ | refine Out.put rfl ?_ | refine Out.sets rfl ?_ | refine Out.hav rfl ?_ | exact Out.refl _ _)), ⟨rfl, trivial⟩, .refl _, by omega, by omega⟩
    · obtain rfl : i = n := by omega
      have hH := hfr.helps
      have hinvq := hH.inv_eq h1 h2
      refine WC.seq fun K hK => ?_
      refine WC.region rfl ?_
      refine wG rfl rfl (g_lt rfl (.mk rfl rfl) (.mk rfl rfl) (decide_eq_false (by omega))) ?_
      refine WL.nil ?_
      (refine hK _ _ ?_; clear hK)
      refine WC.seq fun K hK => ?_
      refine WC.cond_false (.mk rfl rfl) ?_
      refine WC.exit ?_
      (clear hK; refine hK _ _ ?_; clear hK)
      refine WC.seq fun K hK => ?_
      refine WC.region rfl ?_
      refine wG rfl rfl (g_move rfl (.mk (v := .int _ _) rfl rfl)) ?_
      (refine WL.want rfl (WL1.callN rfl rfl rfl (.cons (.mk (v := .int _ _) rfl rfl) .nil) (fun w hw => generator_n m i w hm h1 h2) ?_); rintro _ _ ⟨Ag, cg, rg, rfl, rfl, hrg, hlg⟩)
      refine wG rfl rfl (g_assign rfl (.mk (v := .slice _ _ _) rfl rfl)) ?_
      refine WL.nil ?_
      (refine hK _ _ ?_; clear hK)
      refine WC.seq fun K hK => ?_
      refine WC.region rfl ?_
      refine wG rfl rfl (g_assign rfl (.mk (v := .slice _ _ _) rfl rfl)) ?_
      refine WL.nil ?_
      (refine hK _ _ ?_; clear hK)
      refine WC.seq fun K hK => ?_
      refine WC.seq fun K hK => ?_
      refine WC.region rfl ?_
      refine wG rfl rfl (g_move rfl (.mk (v := .slice _ _ _) rfl rfl)) ?_
      refine wG rfl rfl (g_len rfl (.mk rfl rfl) rfl) ?_
      refine wG rfl rfl (g_move rfl (.mk (v := .int _ _) rfl rfl)) ?_
      refine WL.nil ?_
      (refine hK _ _ ?_; clear hK)
      refine WC.block ?_
      refine WC.nilvec 111 1 ?_
      have hsel : ∀ k, k < fr.length → nth fr k < rg.length := fun k hk => by have := hfr.lt k (by omega); omega
      have hrow : ∀ k, k < rg.length → (nth rg k).l.length = i := fun k hk => by rw [els_row hrg hk]; exact genM_rowlen (by omega)
      refine WC.loopI3 (2417261343418899643770880) (fun (k : Nat) (O : Option Addr) (oc : Nat) => [(69, iv k), (11, .slice O k oc)]) (fun k O oc => [vec O k oc 111 1 (((fr.map fun k => nth rg k).map Row.v).take k), vec Ag rg.length cg 111 1 (rg.map Row.v), rowsA rg]) (fun k _ _ => k ≤ i) (fun k _ _ => i - k) 0 none 0 ⟨rfl, rfl, trivial⟩ (Imp.sub (by repeat (first | exact List.nil_sublist _ | exact List.Sublist.refl _ | apply List.Sublist.cons_cons | apply List.Sublist.cons))) (by omega) ?_
      intro k O oc U2 hk
      by_cases hlt2 : k < i
      · have hks := hsel k (by omega)
        have hgv := ldv_get (ld := fr) (k := k) (by omega)
        have htk : ((fr.map fun k => nth rg k).map Row.v).take (k + 1) = ((fr.map fun k => nth rg k).map Row.v).take k ++ [(nth rg (nth fr k)).v] := by
          rw [List.take_add_one, List.getElem?_map, List.getElem?_map, nth_get (by omega)]; rfl
        refine WC.seq fun K hK => ?_
        refine WC.region rfl ?_
        refine wG rfl rfl (g_lt rfl (.mk rfl rfl) (.mk rfl rfl) (decide_eq_true (by omega))) ?_
        refine WL.nil ?_
        (refine hK _ _ ?_; clear hK)
        refine WC.seq fun K hK => ?_
        refine WC.cond_true (.mk rfl rfl) ?_
        refine WC.skip ?_
        (refine hK _ _ ?_; clear hK)
        refine WC.seq fun K hK => ?_
        refine WC.block ?_
        refine WC.seq fun K hK => ?_
        refine WC.region rfl ?_
        refine wG rfl rfl (g_indexAddr (sz := 1) rfl (.mk rfl rfl) (.mk rfl rfl) rfl rfl rfl (by omega) (fun _ _ => sl_some hs (by omega))) ?_
        refine wG rfl rfl (g_load rfl (.mk rfl rfl) rfl (rd_sl hs hgv)) ?_
        refine wG rfl rfl (g_assign rfl (.mk (v := .int _ _) rfl rfl)) ?_
        refine WL.nil ?_
        (refine hK _ _ ?_; clear hK)
        refine WC.region rfl ?_
        refine wG rfl rfl (g_move rfl (.mk (v := .slice _ _ _) rfl rfl)) ?_
        refine wG rfl rfl (g_move rfl (.mk (v := .slice _ _ _) rfl rfl)) ?_
        refine wG rfl rfl (g_move rfl (.mk (v := .int _ _) rfl rfl)) ?_
        refine wG rfl rfl (g_indexAddr (sz := 1) rfl (.mk rfl rfl) (.mk rfl rfl) rfl rfl rfl (by omega) (fun w hw => vec_some hw (.tail _ (.head _)) (by omega))) ?_
        refine wG rfl rfl (g_load rfl (.mk rfl rfl) rfl (rd_vec (.tail _ (.head _)) (get1 (by omega)))) ?_
        refine WL.want rfl (WL1.lit (cs := [_]) elR rfl rfl rfl (.cons (.mk (v := .slice _ _ _) rfl rfl) .nil) rfl (by first | (simp [Value.cells]; done) | fail) rfl rfl (fun b78 => ?_))
        refine WL.want rfl (WL1.append elR rfl rfl (.mk rfl rfl) (.mk rfl rfl) (.tail (.head)) (fun w hw => Sl.of_vec hw (.head _)) (all1 rfl) (by unfold maxLen; omega) (by omega) (fun A79 c79 => ?_))
        refine wG rfl rfl (g_assign rfl (.mk (v := .slice _ _ _) rfl rfl)) ?_
        refine WL.nil ?_
        (refine hK _ _ ?_; clear hK)
        refine WC.region rfl ?_
        refine wG rfl rfl (g_add rfl (.mk rfl rfl) (.mk rfl rfl) (IntWalk.i64_in _ (by omega))) ?_
        refine wG rfl rfl (g_move rfl (.mk (v := .int _ _) rfl rfl)) ?_
        refine WL.nil ?_
        exact ⟨k + 1, _, _, (by repeat (first | with_reducible exact Out.refl _ _ | refine Out.set rfl ?_ | refine Out.put rfl ?_ | refine Out.sets rfl ?_ | refine Out.hav rfl ?_ | exact Out.refl _ _)), ⟨rfl, rfl, trivial⟩, by rw [htk]; exact Imp.cons (Imp.sub (by repeat (first | exact List.nil_sublist _ | exact List.Sublist.refl _ | apply List.Sublist.cons_cons | apply List.Sublist.cons))), by omega, by omega⟩
      · obtain rfl : k = i := by omega
        have hsq : (fr.map fun k => nth rg k).length = k := by rw [List.length_map, hfl]
        have htl : ((fr.map fun k => nth rg k).map Row.v).take k = (fr.map fun k => nth rg k).map Row.v := List.take_of_length_le (by rw [List.length_map, hsq]; exact Nat.le_refl _)
        rw [htl]
        have hrr : ∀ i, i < fr.length → nth (fr.map fun k => nth rg k) i = nth rg (nth fr i) := fun i hi => nth_map _ hi
        have hel : els (fr.map fun k => nth rg k) = rowsM (genM k) fr := by rw [els_some rg fr hsel, hrg]
        have hgs : Good (els (fr.map fun k => nth rg k)) := good_of (by omega) (by omega) (by rw [hrr 0 (by omega), hrow _ (hsel 0 (by omega))]; omega) (by rw [hrr 0 (by omega), hrow _ (hsel 0 (by omega))]; omega) fun q hq => by rw [hrr q (by omega), hrr 0 (by omega), hrow _ (hsel q (by omega)), hrow _ (hsel 0 (by omega))]
        have hsqr : (nth (fr.map fun k => nth rg k) 0).l.length = (fr.map fun k => nth rg k).length := by rw [hrr 0 (by omega), hrow _ (hsel 0 (by omega)), hsq]
        have hinv : ∀ w', H w [vec O k oc 111 1 ((fr.map fun k => nth rg k).map Row.v), vec Ag rg.length cg 111 1 (rg.map Row.v), rowsA rg] w' → Calls Try.prog 93 #[.slice O k oc] w' fun e w2 => ∃ v' M, e = .returned v' ∧ H w' M w2 ∧ ∃ A cc rs, v' = .tuple #[.slice A rs.length cc, iv 0] ∧ M = matM A cc rs ∧ els rs = invOf k fr ∧ rs.length = (fr.map fun k => nth rg k).length := fun w' hw' => by
          have hmt := MatAt.some (va := .slice Ag rg.length cg) (ra := rg) (sel := fr) (A := O) (c := oc) (MatAt.of_rowsA hw' (.tail _ (.head _)) (.tail _ (.tail _ (.head _)))) hsel hw' (by rw [hfl]; exact .head _)
          rw [hfl] at hmt
          exact inverse_n _ _ _ w' hmt hgs hsqr (by rw [hel]; exact hinvq)
        have hshp := (invM_some (rows_shp hH) hinvq).1
        have hrt := hrow to (by omega)
        have hgt : Good (els [nth rg to]) := by
          refine good_of (rs := [nth rg to]) (Nat.le_refl 1) (by show 1 ≤ 64; omega) (by show 1 ≤ (nth rg to).l.length; omega) (by show (nth rg to).l.length ≤ 64; omega) fun q hq => ?_
          have : q = 0 := by have : q < 1 := hq; omega
          subst this; rfl
        refine WC.seq fun K hK => ?_
        refine WC.region rfl ?_
        refine wG rfl rfl (g_lt rfl (.mk rfl rfl) (.mk rfl rfl) (decide_eq_false (by omega))) ?_
        refine WL.nil ?_
        (refine hK _ _ ?_; clear hK)
        refine WC.seq fun K hK => ?_
        refine WC.cond_false (.mk rfl rfl) ?_
        refine WC.exit ?_
        (clear hK; refine hK _ _ ?_; clear hK)
        refine WC.seq fun K hK => ?_
        refine WC.region rfl ?_
        refine wG rfl rfl (g_move rfl (.mk (v := .slice _ _ _) rfl rfl)) ?_
        (refine WL.want rfl (WL1.callN rfl rfl rfl (.cons (.mk (v := .slice _ _ _) rfl rfl) .nil) (fun w hw => hinv w hw) ?_); rintro _ _ ⟨Ai, ci, ri, rfl, rfl, hri, hli⟩)
        refine wG rfl rfl (g_move rfl (.mk (v := .tuple _) rfl rfl)) ?_
        refine wG rfl rfl (g_extract rfl (.mk rfl rfl) rfl) ?_
        refine wG rfl rfl (g_extract rfl (.mk rfl rfl) rfl) ?_
        refine wG rfl rfl (g_assign rfl (.mk (v := .slice _ _ _) rfl rfl)) ?_
        refine wG rfl rfl (g_assign rfl (.mk (v := .int _ _) rfl rfl)) ?_
        refine WL.nil ?_
        (refine hK _ _ ?_; clear hK)
        refine WC.seq fun K hK => ?_
        refine WC.seq fun K hK => ?_
        refine WC.region rfl ?_
        refine wG rfl rfl (g_move rfl (.mk (v := .int _ _) rfl rfl)) ?_
        refine wG rfl rfl (g_ne rfl (.mk rfl rfl) (.mk rfl rfl) (decide_eq_false (by omega))) ?_
        refine WL.nil ?_
        (refine hK _ _ ?_; clear hK)
        refine WC.cond_false (.mk rfl rfl) ?_
        refine WC.skip ?_
        (refine hK _ _ ?_; clear hK)
        have hgi : Good (els ri) := good_of (by omega) (by omega) (by rw [els_row hri (by omega), hshp.2 0 (by omega)]; omega) (by rw [els_row hri (by omega), hshp.2 0 (by omega)]; omega) fun q hq => by rw [els_row hri hq, els_row hri (by omega), hshp.2 q (by omega), hshp.2 0 (by omega)]
        have hmr := mul_row hH h1 h2 hrg (by omega) (to := to) (by omega)
        rw [← hri] at hmr
        have hml : ∀ (b : Nat) (w' : World) (L : List Asrt), H w L w' → vec (some ⟨b, 0, none⟩) 1 1 111 1 [(nth rg to).v] ∈ L → rowsA rg ∈ L → vec Ai ri.length ci 111 1 (ri.map Row.v) ∈ L → rowsA ri ∈ L → Calls Try.prog 94 #[.slice (some ⟨b, 0, none⟩) 1 1, .slice Ai ri.length ci] w' fun e w2 => ∃ v' M, e = .returned v' ∧ H w' M w2 ∧ ∃ A cc r0, v' = .tuple #[.slice A 1 cc, iv 0] ∧ M = [vec A 1 cc 111 1 [r0.v], rowsA [r0]] ∧ r0.l = wts k fr to := fun b w' L hw' m1 m2 m3 m4 => by
          have hma : MatAt w' (.slice (some ⟨b, 0, none⟩) 1 1) [nth rg to] := ⟨Sl.of_vec hw' m1, fun r hr => by
            rw [List.mem_singleton] at hr; subst hr; exact Sl.of_rowA hw' m2 (by omega)⟩
          refine (mul_n _ _ [nth rg to] ri w' hma (MatAt.of_rowsA hw' m3 m4) hgt hgi (by show (nth rg to).l.length = _; omega)).mono ?_
          rintro e w2 ⟨v', M, rfl, hM, A, cc, ro, rfl, rfl, hro, hlo⟩
          obtain ⟨r0, rfl⟩ := List.length_eq_one_iff.1 hlo
          refine ⟨_, _, rfl, hM, A, cc, r0, rfl, rfl, ?_⟩
          rw [hmr] at hro
          simpa [els] using hro
        refine WC.seq fun K hK => ?_
        refine WC.region rfl ?_
        refine wG rfl rfl (g_move rfl (.mk (v := .slice _ _ _) rfl rfl)) ?_
        refine wG rfl rfl (g_move rfl (.mk (v := .int _ _) rfl rfl)) ?_
        refine wG rfl rfl (g_indexAddr (sz := 1) rfl (.mk rfl rfl) (.mk rfl rfl) rfl rfl rfl (by omega) (fun w hw => vec_some hw (.tail _ (.tail _ (.tail _ (.head _)))) (by omega))) ?_
        refine wG rfl rfl (g_load rfl (.mk rfl rfl) rfl (rd_vec (.tail _ (.tail _ (.tail _ (.head _)))) (get1 (by omega)))) ?_
        refine WL.want rfl (WL1.lit (cs := [_]) elR rfl rfl rfl (.cons (.mk (v := .slice _ _ _) rfl rfl) .nil) rfl (by first | (simp [Value.cells]; done) | fail) rfl rfl (fun b93 => ?_))
        refine wG rfl rfl (g_move rfl (.mk (v := .slice _ _ _) rfl rfl)) ?_
        (refine WL.want rfl (WL1.callN rfl rfl rfl (.cons (.mk (v := .slice _ _ _) rfl rfl) (.cons (.mk (v := .slice _ _ _) rfl rfl) .nil)) (fun w hw => hml _ w _ hw (by repeat (first | exact .head _ | apply List.Mem.tail)) (by repeat (first | exact .head _ | apply List.Mem.tail)) (by repeat (first | exact .head _ | apply List.Mem.tail)) (by repeat (first | exact .head _ | apply List.Mem.tail))) ?_); rintro _ _ ⟨Ap, cp, r0, rfl, rfl, hr0⟩)
        refine wG rfl rfl (g_move rfl (.mk (v := .tuple _) rfl rfl)) ?_
        refine wG rfl rfl (g_extract rfl (.mk rfl rfl) rfl) ?_
        refine wG rfl rfl (g_extract rfl (.mk rfl rfl) rfl) ?_
        refine wG rfl rfl (g_assign rfl (.mk (v := .slice _ _ _) rfl rfl)) ?_
        refine wG rfl rfl (g_assign rfl (.mk (v := .int _ _) rfl rfl)) ?_
        refine WL.nil ?_
        (refine hK _ _ ?_; clear hK)
        refine WC.seq fun K hK => ?_
        refine WC.region rfl ?_
        refine wG rfl rfl (g_move rfl (.mk (v := .slice _ _ _) rfl rfl)) ?_
        refine wG rfl rfl (g_indexAddr (sz := 1) rfl (.mk rfl rfl) (.mk rfl rfl) rfl rfl (show _ = ((0 : Nat) : Int) from rfl) (by omega) (fun w hw => vec_some hw (.head _) (by omega))) ?_
        refine wG rfl rfl (g_load rfl (.mk rfl rfl) rfl (rd_vec (.head _) (show ([r0.v] : List Value)[0 * 1]? = some r0.v from rfl))) ?_
        refine wG rfl rfl (g_assign rfl (.mk (v := .slice _ _ _) rfl rfl)) ?_
        refine wG rfl rfl (g_assign rfl (.mk (v := .int _ _) rfl rfl)) ?_
        refine WL.nil ?_
        (refine hK _ _ ?_; clear hK)
        refine WC.ret ?_
        have hr0l : r0.l.length = k := by rw [hr0, wts_len]
        have hown : r0.own = vec r0.A k r0.c 5 1 (bvs (wts k fr to)) := by rw [Row.own, hr0l, hr0]
        refine fun w' hw' => ⟨_, [r0.own], rfl, ?_, r0.A, r0.c, ?_, by rw [hown]⟩
        · refine Imp.h ?_ hw'
          exact Imp.trans (M := [rowsA [r0]]) (Imp.pick (by repeat (first | exact .head | apply Take.tail)) (Imp.nil _)) (Imp.unbun [r0.own] [])
        · show Value.tuple #[r0.v, iv 0] = _
          rw [Row.v, hr0l]
end Go.Proofs.Ytnkbnponpknokaa
namespace Go.Proofs.Ytnkbnponpknokaa
set_option maxRecDepth 20000
open Go.RowKit
def gdT (bs : List Bool) (n : Nat) : Nat → List Nat
  | 0 => []
  | i + 1 => if nth bs i = false ∧ (gdT bs n i).length < n then gdT bs n i ++ [i] else gdT bs n i
def cnt (bs : List Bool) : Nat → Nat
  | 0 => 0
  | i + 1 => cnt bs i + if nth bs i then 1 else 0
variable {bs : List Bool} {n : Nat}
theorem cnt_le : ∀ i, cnt bs i ≤ i
  | 0 => Nat.le_refl _
  | i + 1 => by have := cnt_le i; show cnt bs i + (if nth bs i then 1 else 0) ≤ i + 1; split <;> omega
theorem gdT_take {i : Nat} (h : nth bs i = false) (hl : (gdT bs n i).length < n) : gdT bs n (i + 1) = gdT bs n i ++ [i] := if_pos ⟨h, hl⟩
theorem gdT_bad {i : Nat} (h : nth bs i = true) : gdT bs n (i + 1) = gdT bs n i := if_neg fun ⟨h1, _⟩ => by rw [h] at h1; cases h1
theorem gdT_over {i : Nat} (h : ¬ (gdT bs n i).length < n) : gdT bs n (i + 1) = gdT bs n i := if_neg fun ⟨_, h2⟩ => h h2
theorem gdT_len : ∀ i, (gdT bs n i).length = min n (i - cnt bs i)
  | 0 => by show 0 = min n (0 - cnt bs 0); omega
  | i + 1 => by
    have ih := gdT_len i
    have hc := cnt_le (bs := bs) i
    have hs : cnt bs (i + 1) = cnt bs i + if nth bs i then 1 else 0 := rfl
    cases hb : nth bs i with
    | true => rw [gdT_bad hb, hs, hb, if_pos rfl]; omega
    | false =>
      rw [hs, hb]
      by_cases hl : (gdT bs n i).length < n
      · rw [gdT_take hb hl, List.length_append]; simp; omega
      · rw [gdT_over hl]; simp; omega
theorem gdT_lt : ∀ i, ∀ a ∈ gdT bs n i, a < i ∧ nth bs a = false
  | 0, a, h => by cases h
  | i + 1, a, h => by
    by_cases hc : nth bs i = false ∧ (gdT bs n i).length < n
    · rw [gdT_take hc.1 hc.2] at h
      rcases List.mem_append.1 h with h | h
      · have := gdT_lt i a h; exact ⟨by omega, this.2⟩
      · rw [List.mem_singleton] at h; subst h; exact ⟨by omega, hc.1⟩
    · rw [gdT, if_neg hc] at h
      have := gdT_lt i a h; exact ⟨by omega, this.2⟩
theorem gdT_inc : ∀ i, ∀ k, k + 1 < (gdT bs n i).length → nth (gdT bs n i) k < nth (gdT bs n i) (k + 1)
  | 0, k, h => by cases h
  | i + 1, k, h => by
    by_cases hc : nth bs i = false ∧ (gdT bs n i).length < n
    · rw [gdT_take hc.1 hc.2] at h ⊢
      rw [List.length_append] at h
      simp at h
      rw [nth_app, nth_app, if_pos (by omega)]
      by_cases e : k + 1 < (gdT bs n i).length
      · rw [if_pos e]; exact gdT_inc i k e
      · rw [if_neg e, show k + 1 - (gdT bs n i).length = 0 from by omega, nth_zero]
        exact (gdT_lt i _ (nth_mem (by omega))).1
    · rw [gdT, if_neg hc] at h ⊢
      exact gdT_inc i k h
theorem gdT_full {i : Nat} (h : (gdT bs n i).length = n) : ∀ d, gdT bs n (i + d) = gdT bs n i
  | 0 => rfl
  | d + 1 => by rw [← Nat.add_assoc, gdT_over (by rw [gdT_full h d, h]; omega), gdT_full h d]
theorem gdT_wfr (hc : cnt bs (n + 3) ≤ 3) : Wfr n (gdT bs n (n + 3)) := by
  have hl : (gdT bs n (n + 3)).length = n := by rw [gdT_len]; omega
  exact ⟨hl, fun i hi => (gdT_lt _ _ (nth_mem (by omega))).1, fun k hk => gdT_inc _ k (by omega)⟩
def decP (ps : List Blk) (bs : List Bool) (n j : Nat) : List Blk := (List.range (n + 3)).map fun i => if i < j ∧ nth bs i = true then comb (wts n (gdT bs n (n + 3)) i) ((gdT bs n (n + 3)).map (nth ps)) n else nth ps i
def decL (ps : List Blk) (bs : List Bool) (n : Nat) : List Blk := decP ps bs n (n + 3)
theorem decP_len (ps : List Blk) (bs : List Bool) (n j : Nat) : (decP ps bs n j).length = n + 3 := by simp [decP]
theorem decP_nth (ps : List Blk) (bs : List Bool) (n j : Nat) {i : Nat} (h : i < n + 3) : nth (decP ps bs n j) i = if i < j ∧ nth bs i = true then comb (wts n (gdT bs n (n + 3)) i) ((gdT bs n (n + 3)).map (nth ps)) n else nth ps i := nth_range _ h
theorem decP_zero {ps : List Blk} (h : ps.length = n + 3) : decP ps bs n 0 = ps := list_ext_nth (by rw [decP_len, h]) fun k hk => by
  rw [decP_nth _ _ _ _ (by rw [decP_len] at hk; exact hk), if_neg (by omega)]
theorem decP_set {ps : List Blk} {j : Nat} (hj : j < n + 3) (hb : nth bs j = true) : (decP ps bs n j).set j (comb (wts n (gdT bs n (n + 3)) j) ((gdT bs n (n + 3)).map (nth ps)) n) = decP ps bs n (j + 1) :=
  list_ext_nth (by rw [List.length_set, decP_len, decP_len]) fun q hq => by
    have hq3 : q < n + 3 := by rw [List.length_set, decP_len] at hq; exact hq
    rw [nth_set_eq (by rw [decP_len]; exact hj), decP_nth _ _ _ _ hq3, decP_nth _ _ _ _ hq3]
    by_cases e : q = j
    · subst e; rw [if_pos rfl, if_pos ⟨by omega, hb⟩]
    · rw [if_neg e]
      by_cases e2 : q < j ∧ nth bs q = true
      · rw [if_pos e2, if_pos ⟨by omega, e2.2⟩]
      · rw [if_neg e2, if_neg fun h => e2 ⟨by omega, h.2⟩]
theorem decP_skip {ps : List Blk} {j : Nat} (hb : ¬ nth bs j = true) : decP ps bs n j = decP ps bs n (j + 1) := List.map_congr_left fun q _ => by
  by_cases e : q < j ∧ nth bs q = true
  · rw [if_pos e, if_pos ⟨by omega, e.2⟩]
  · rw [if_neg e, if_neg fun h => e ⟨by
      have h1 := h.1
      have : q ≠ j := fun h' => hb (h' ▸ h.2)
      omega, h.2⟩]
end Go.Proofs.Ytnkbnponpknokaa
namespace Go.Proofs.Ytnkbnponpknokaa
set_option maxRecDepth 20000
open Go.RowKit
theorem lastC_some {l : List Chg} {z : Int} : ∀ {i : Nat}, (lastC l z i).isSome = true → ∃ k, k < i ∧ (nth l k).s = z
  | 0, h => by cases h
  | i + 1, h => by
    unfold lastC at h
    by_cases e : (nth l i).s = z
    · exact ⟨i, by omega, e⟩
    · rw [if_neg e] at h
      obtain ⟨k, hk, hz⟩ := lastC_some h
      exact ⟨k, by omega, hz⟩
theorem datP_nth {ds : List Blk} {l : List Chg} (ho : okC (ds.length + 3 : Nat) l = true) {k : Nat} (hk : k < ds.length) : ∀ i, i ≤ l.length → nth (datP ds l i) k = (lastC l k i).getD (nth ds k)
  | 0, _ => rfl
  | i + 1, hi => by
    have h1 := okC_each ho (k := i) (by omega)
    have ih := datP_nth ho hk i (by omega)
    unfold datP lastC
    rw [nth_set_eq (by rw [datP_len]; omega)]
    by_cases e : (nth l i).s = k
    · rw [if_pos e, if_pos (by omega)]; rfl
    · rw [if_neg e, if_neg (by omega), ih]
def tch (l : List Chg) (m : Nat) : List Nat := numL (fun i => (lastC l i l.length).isSome) m
def ints (l : List Nat) : List Int := l.map fun k : Nat => (k : Int)
def lstB (l : List Chg) (k : Nat) : Blk := (lastC l k l.length).getD 0
def resL (l : List Chg) (T : List Nat) (N : Nat) (p : List Blk) : List Chg := T.map (fun k : Nat => (⟨k, lstB l k⟩ : Chg)) ++ (List.range 3).map fun j : Nat => (⟨((N + j : Nat) : Int), nth p j⟩ : Chg)
def dltP (l : List Chg) (O : List Blk) (T : List Nat) : Nat → List Blk
  | 0 => O.drop T.length
  | i + 1 => upd (dltP l O T i) (nth T i) (nth O i + lstB l (nth T i))
def rsP (N : Nat) (O : List Blk) (R : List Nat) : Nat → List Blk
  | 0 => List.replicate N 0
  | i + 1 => (rsP N O R i).set (nth R i) (nth O i)
theorem rsP_len (N : Nat) (O : List Blk) (R : List Nat) : ∀ i, (rsP N O R i).length = N
  | 0 => List.length_replicate
  | i + 1 => by rw [rsP, List.length_set, rsP_len N O R i]
def frB (N : Nat) (R : List Nat) : Nat → List Bool
  | 0 => List.replicate (N + 3) true
  | i + 1 => (frB N R i).set (nth R i) false
theorem frB_len (N : Nat) (R : List Nat) : ∀ i, (frB N R i).length = N + 3
  | 0 => List.length_replicate
  | i + 1 => by rw [frB, List.length_set, frB_len N R i]
def okR (m : Nat) (R : List Int) (i : Nat) : Prop := 0 ≤ nth R i ∧ nth R i < (m : Int) ∧ (i = 0 ∨ nth R (i - 1) < nth R i)
instance (m : Nat) (R : List Int) (i : Nat) : Decidable (okR m R i) := by unfold okR; infer_instance
def nats (R : List Int) : List Nat := R.map Int.toNat
theorem ints_len (R : List Nat) : (ints R).length = R.length := List.length_map ..
theorem ldv_ints (R : List Nat) : ldv R = ivs (ints R) := ldv_ivs R
theorem nth_map' {α β : Type} [Inhabited α] [Inhabited β] (f : α → β) {l : List α} {k : Nat} (h : k < l.length) : nth (l.map f) k = f (nth l k) := by
  rw [nth_eq (by rw [List.length_map]; exact h), nth_eq h, List.getElem_map]
theorem nth_nats {R : List Int} {k : Nat} (h : k < R.length) : nth (nats R) k = (nth R k).toNat := nth_map' _ h
theorem nth_ints {R : List Nat} {k : Nat} (h : k < R.length) : nth (ints R) k = ((nth R k : Nat) : Int) := nth_map' _ h
def frD (N : Nat) (O : List Blk) (R : List Int) : List Blk := (decL (rsP (N + 3) O (nats R) R.length) (frB N (nats R) R.length) N).take N
def cmpP (N : Nat) (R : List Int) (O : List Blk) (l : List Chg) : Option (List Blk) :=
  if R = ints (numL (dP (N + 3) (ints (tch l (N + 3)))) (N + 3)) then some (dltP l O (tch l (N + 3)) (tch l (N + 3)).length)
  else if R = ints (numL (rP (N + 3) (ints (tch l (N + 3)))) (N + 3)) then some (enc (datP (rsP N O (nats R) R.length) l l.length))
  else if R.length = N ∧ ∀ i, i < N → okR (N + 3) R i then some (enc (datP (frD N O R) l l.length)) else none
theorem frD_len (N : Nat) (O : List Blk) (R : List Int) : (frD N O R).length = N := by
  unfold frD decL
  rw [List.length_take, decP_len]; omega
theorem dltP_len (l : List Chg) (O : List Blk) (T : List Nat) (h : O.length = T.length + 3) : ∀ i, (dltP l O T i).length = 3
  | 0 => by unfold dltP; rw [List.length_drop]; omega
  | i + 1 => by unfold dltP upd; simp
/-! ### the touched pieces -/
theorem numL_T' {p : Nat → Bool} {i : Nat} (h : p i = true) : numL p (i + 1) = numL p i ++ [i] := by rw [numL, if_pos h]
theorem numL_F' {p : Nat → Bool} {i : Nat} (h : p i = false) : numL p (i + 1) = numL p i := by rw [numL, if_neg (by rw [h]; exact Bool.false_ne_true)]
theorem numL_none {p : Nat → Bool} (a : Nat) : ∀ d, (∀ i, a ≤ i → p i = false) → numL p (a + d) = numL p a
  | 0, _ => rfl
  | d + 1, h => by rw [← Nat.add_assoc, numL_F' (h _ (by omega)), numL_none a d h]
theorem tch_out {N : Nat} {l : List Chg} (ho : okC (N + 3 : Nat) l = true) {i : Nat} (hi : N ≤ i) : (lastC l i l.length).isSome = false := by
  cases h : (lastC l i l.length).isSome with
  | false => rfl
  | true =>
    obtain ⟨k, hk, hz⟩ := lastC_some h
    have := okC_each ho hk
    omega
theorem tch_data {N : Nat} {l : List Chg} (ho : okC (N + 3 : Nat) l = true) : tch l (N + 3) = numL (fun i => (lastC l i l.length).isSome) N := numL_none N 3 fun i hi => tch_out ho hi
theorem tch_lt {N : Nat} {l : List Chg} (ho : okC (N + 3 : Nat) l = true) {k : Nat} (hk : k < (tch l (N + 3)).length) : nth (tch l (N + 3)) k < N := by
  rw [tch_data ho] at hk ⊢; exact numL_lt _ _ k hk
theorem numL_mem {p : Nat → Bool} {j : Nat} : ∀ n, j ∈ numL p n ↔ j < n ∧ p j = true
  | 0 => by simp [numL]
  | n + 1 => by
    rw [numL]
    by_cases h : p n = true
    · rw [if_pos h, List.mem_append, numL_mem n, List.mem_singleton]
      constructor
      · rintro (⟨h1, h2⟩ | rfl)
        · exact ⟨by omega, h2⟩
        · exact ⟨by omega, h⟩
      · rintro ⟨h1, h2⟩
        by_cases e : j = n
        · exact .inr e
        · exact .inl ⟨by omega, h2⟩
    · rw [if_neg h, numL_mem n]
      constructor
      · rintro ⟨h1, h2⟩; exact ⟨by omega, h2⟩
      · rintro ⟨h1, h2⟩
        exact ⟨Nat.lt_of_le_of_ne (by omega) fun e => h (e ▸ h2), h2⟩
theorem hasB_mem {l : List Int} {x : Int} : hasB l x = true ↔ x ∈ l := by
  unfold hasB
  constructor
  · intro h
    obtain ⟨j, hj⟩ := Option.isSome_iff_exists.1 h
    obtain ⟨h1, h2⟩ := gfnd_some hj
    rw [← of_decide_eq_true h2, nth_eq h1]
    exact List.getElem_mem _
  · intro h
    cases e : gfnd (fun k => decide (nth l k = x)) l.length with
    | some j => rfl
    | none =>
      obtain ⟨k, hk, hx⟩ := List.getElem_of_mem h
      have := of_decide_eq_false (gfnd_none e k hk)
      rw [nth_eq hk] at this
      exact absurd hx this
theorem hasB_ints {T : List Nat} {k : Nat} : hasB (ints T) (k : Int) = decide (k ∈ T) := by
  rw [Bool.eq_iff_iff, hasB_mem, decide_eq_true_iff]
  unfold ints
  rw [List.mem_map]
  constructor
  · rintro ⟨a, h1, h2⟩
    obtain rfl : a = k := Int.ofNat_inj.1 h2
    exact h1
  · exact fun h => ⟨k, h, rfl⟩
theorem tch_mem {l : List Chg} {m k : Nat} : k ∈ tch l m ↔ k < m ∧ (lastC l k l.length).isSome = true := numL_mem m
theorem dP_tch {N : Nat} {l : List Chg} {i : Nat} (hi : i < N) : dP (N + 3) (ints (tch l (N + 3))) i = (lastC l i l.length).isSome := by
  unfold dP
  rw [hasB_ints, decide_eq_false (by omega), Bool.false_or, Bool.eq_iff_iff, decide_eq_true_iff, tch_mem]
  exact ⟨fun h => h.2, fun h => ⟨by omega, h⟩⟩
theorem numL_congr {p q : Nat → Bool} : ∀ n, (∀ i, i < n → p i = q i) → numL p n = numL q n
  | 0, _ => rfl
  | n + 1, h => by rw [numL, numL, numL_congr n fun i hi => h i (by omega), h n (by omega)]
theorem dP_all {N : Nat} {l : List Chg} (ho : okC (N + 3 : Nat) l = true) : numL (dP (N + 3) (ints (tch l (N + 3)))) (N + 3) = tch l (N + 3) ++ [N, N + 1, N + 2] := by
  have h : ∀ j, j < 3 → dP (N + 3) (ints (tch l (N + 3))) (N + j) = true := fun j hj => by unfold dP; rw [decide_eq_true (by omega)]; rfl
  rw [numL_T' (h 2 (by omega)), numL_T' (h 1 (by omega)), numL_T' (h 0 (by omega))]
  have h2 := numL_congr (p := dP (N + 3) (ints (tch l (N + 3)))) (q := fun i : Nat => (lastC l i l.length).isSome) N fun i hi => dP_tch hi
  rw [← tch_data ho] at h2
  have h3 : numL (dP (N + 3) (ints (tch l (N + 3)))) (N + 0) = tch l (N + 3) := h2
  rw [h3]
  simp
/-! ### the data of the map -/
def mxD (l : List Chg) (ds : List Blk) (left : Lit → Bool) : List Blk := (List.range ds.length).map fun k : Nat => if (lastC l k l.length).isSome && !left (.int .i64 k) then lstB l k else nth ds k
theorem mxD_len (l : List Chg) (ds : List Blk) (left : Lit → Bool) : (mxD l ds left).length = ds.length := by simp [mxD]
theorem mxD_start {l : List Chg} {ds : List Blk} : mxD l ds (Maps.has (mD l l.length)) = ds := by
  refine list_ext_nth (mxD_len ..) fun k hk => ?_
  rw [mxD_len] at hk
  unfold mxD
  rw [nth_range _ hk, mD_has]
  cases (lastC l k l.length).isSome <;> rfl
theorem mxD_step {l : List Chg} {ds : List Blk} {left : Lit → Bool} {z : Nat} (hs : (lastC l z l.length).isSome = true) (hz : z < ds.length) : (mxD l ds left).set z (lstB l z) = mxD l ds fun x => left x && !x.sameKey (.int .i64 z) := by
  refine list_ext_nth (by rw [List.length_set, mxD_len, mxD_len]) fun k hk => ?_
  rw [List.length_set, mxD_len] at hk
  rw [nth_set_eq (by rw [mxD_len]; exact hz)]
  unfold mxD
  rw [nth_range _ hk, nth_range _ hk]
  by_cases e : k = z
  · subst e
    rw [if_pos rfl, hs]
    have : (Lit.int .i64 (k : Int)).sameKey (.int .i64 k) = true := decide_eq_true ⟨rfl, rfl⟩
    show lstB l k = if (true && !(left (.int .i64 k) && !(Lit.int .i64 (k : Int)).sameKey (.int .i64 k))) = true then lstB l k else nth ds k
    rw [this]; simp
  · rw [if_neg e]
    have : (Lit.int .i64 (k : Int)).sameKey (.int .i64 z) = false := decide_eq_false fun h => e (by have := h.2; omega)
    show _ = if ((lastC l k l.length).isSome && !(left (.int .i64 k) && !(Lit.int .i64 (k : Int)).sameKey (.int .i64 z))) = true then lstB l k else nth ds k
    rw [this]; simp
theorem mxD_end {l : List Chg} {ds : List Blk} {left : Lit → Bool} (ho : okC (ds.length + 3 : Nat) l = true) (hl : ∀ k, left k = false) : mxD l ds left = datP ds l l.length := by
  refine list_ext_nth (by rw [mxD_len, datP_len]) fun k hk => ?_
  rw [mxD_len] at hk
  rw [datP_nth ho hk l.length (Nat.le_refl _)]
  unfold mxD
  rw [nth_range _ hk, hl]
  unfold lstB
  cases lastC l k l.length <;> rfl
/-! ### the marks -/
theorem frB_later {N : Nat} {R : List Int} {i : Nat} (hR : ∀ j, j < i → okR (N + 3) R j) (hl : i ≤ R.length) : ∀ d, d ≤ i → ∀ z : Nat, z < N + 3 → (d = 0 ∨ nth R (d - 1) < (z : Int)) → nth (frB N (nats R) d) z = true
  | 0, _, z, hz, _ => by unfold frB nth; rw [List.getD_eq_getElem?_getD, List.getElem?_replicate, if_pos hz]; rfl
  | d + 1, hd, z, hz, h => by
    have h1 := hR d (by omega)
    have h2 : nth R d < z := by
      rcases h with h | h
      · omega
      · simpa using h
    unfold frB
    rw [nth_set_eq (by rw [frB_len, nth_nats (by omega)]; have := h1.2.1; omega), nth_nats (by omega), if_neg (by have := h1.1; omega)]
    refine frB_later hR hl d (by omega) z hz ?_
    rcases h1.2.2 with h | h
    · exact .inl h
    · exact .inr (by omega)
theorem cnt_clear {bs : List Bool} {k : Nat} (hk : k < bs.length) (hb : nth bs k = true) : ∀ m, cnt (bs.set k false) m + (if k < m then 1 else 0) = cnt bs m
  | 0 => by simp [cnt]
  | m + 1 => by
    have ih := cnt_clear hk hb m
    unfold cnt
    rw [nth_set_eq hk]
    by_cases e : m = k
    · subst e
      rw [if_pos rfl, hb]
      simp at ih ⊢
      omega
    · rw [if_neg e]
      generalize (if nth bs m = true then 1 else 0) = q
      by_cases h : k < m
      · rw [if_pos h] at ih
        rw [if_pos (show k < m + 1 by omega)]; omega
      · rw [if_neg h] at ih
        rw [if_neg (show ¬ k < m + 1 by omega)]; omega
theorem cnt_true : ∀ (M m : Nat), m ≤ M → cnt (List.replicate M true) m = m
  | _, 0, _ => rfl
  | M, m + 1, h => by
    unfold cnt
    rw [cnt_true M m (by omega), if_pos]
    unfold nth
    rw [List.getD_eq_getElem?_getD, List.getElem?_replicate, if_pos (by omega)]; rfl
theorem frB_cnt {N : Nat} {R : List Int} (hR : ∀ j, j < R.length → okR (N + 3) R j) : ∀ i, i ≤ R.length → cnt (frB N (nats R) i) (N + 3) + i = N + 3
  | 0, _ => by unfold frB; rw [cnt_true _ _ (Nat.le_refl _)]
  | i + 1, hi => by
    have ih := frB_cnt hR i (by omega)
    have h1 := hR i (by omega)
    have hz : nth (nats R) i < N + 3 := by rw [nth_nats (by omega)]; have := h1.2.1; have := h1.1; omega
    have hb : nth (frB N (nats R) i) (nth (nats R) i) = true := by
      refine frB_later (fun j hj => hR j (by omega)) (by omega) i (Nat.le_refl _) _ hz ?_
      rw [nth_nats (by omega)]
      rcases h1.2.2 with h | h
      · exact .inl h
      · exact .inr (by have := h1.1; omega)
    have := cnt_clear (by rw [frB_len]; exact hz) hb (N + 3)
    rw [if_pos hz] at this
    unfold frB
    omega
end Go.Proofs.Ytnkbnponpknokaa
namespace Go.Proofs.Ytnkbnponpknokaa
set_option maxRecDepth 20000
open Go.RowKit
attribute [local irreducible] Calls
theorem kvs_snoc (l : List Blk) (b : Blk) : kvs l ++ b.cells = kvs (l ++ [b]) := by simp [kvs]
set_option maxHeartbeats 4000000 in
theorem decode_c (vp vb : Value) (ps : List Blk) (bs : List Bool) (n : Nat) (w : World) (hp : Sl w 8 vp ps.length (kvs ps)) (hb : Sl w 1 vb bs.length (bls bs)) (h1 : 1 ≤ n) (h2 : n ≤ 13) (hpl : ps.length = n + 3) (hbl : bs.length = n + 3) :
    Calls Try.prog 70 #[vp, vb] w fun e w' => ∃ v' M, e = .returned v' ∧ H w M w' ∧ ((3 < cnt bs (n + 3) ∧ v' = .tuple #[.slice none 0 0, iv 12]) ∨ (cnt bs (n + 3) ≤ 3 ∧ ∃ A c, v' = .tuple #[.slice A (n + 3) c, iv 0] ∧ M = [vec A (n + 3) c 38 8 (kvs (decL ps bs n))])) := by
  obtain ⟨A, c, rfl, hcc, hm, hs⟩ := hp.open_
  obtain ⟨B, d, rfl, hcd, hmd, hsb⟩ := hb.open_
  obtain ⟨m, hmn⟩ : ∃ m, m = n + 3 := ⟨_, rfl⟩
  rw [← hmn] at hpl hbl ⊢
  have hsub : IntKind.i64.wrap ((m : Int) - 3) = (n : Int) := by rw [IntWalk.i64_in _ (by omega)]; omega
  have hpos : ∀ w', Calls Try.prog 85 #[iv m] w' fun e w2 => e = .returned (.bool true) ∧ Below w'.heap.size w' w2 := fun w' => by
    have := possible_i m w'
    rwa [decide_eq_true (by omega)] at this
  rw [hpl] at hs hcc
  rw [hbl] at hsb hcd
  rw [hpl, hbl]
  refine calls_wc (args := [.slice A m c, .slice B m d]) [4, 5] [] Try.func70 rfl Try.ntmps70 rfl rfl rfl rfl (H.refl w) ?_
  refine WC.seq fun K hK => ?_
  refine WC.region rfl ?_
  refine wG rfl rfl (g_assign rfl (.mk (v := .slice _ _ _) rfl rfl)) ?_
  refine wG rfl rfl (g_assign rfl (.mk (v := .int _ _) rfl rfl)) ?_
  refine WL.nil ?_
  (refine hK _ _ ?_; clear hK)
  refine WC.seq fun K hK => ?_
  refine WC.region rfl ?_
  refine wG rfl rfl (g_move rfl (.mk (v := .slice _ _ _) rfl rfl)) ?_
  refine wG rfl rfl (g_len rfl (.mk rfl rfl) rfl) ?_
  refine wG rfl rfl (g_assign rfl (.mk (v := .int _ _) rfl rfl)) ?_
  refine WL.nil ?_
  (refine hK _ _ ?_; clear hK)
  refine WC.seq fun K hK => ?_
  refine WC.seq fun K hK => ?_
  refine WC.region rfl ?_
  refine wG rfl rfl (g_move rfl (.mk (v := .int _ _) rfl rfl)) ?_
  refine WL.want rfl (WL1.callP rfl rfl rfl (.cons (.mk (v := .int _ _) rfl rfl) .nil) (fun w hw => hpos w) ?_)
  refine wG rfl rfl (g_notT rfl (.mk rfl rfl)) ?_
  refine wG rfl rfl (g_move rfl (.mk (v := .bool _) rfl rfl)) ?_
  refine WL.wantG rfl rfl rfl rfl (WL1.give rfl (g_move rfl (.mk (v := .slice _ _ _) rfl rfl)) ?_)
  refine WL.wantG rfl rfl rfl rfl (WL1.give rfl (g_len rfl (.mk rfl rfl) rfl) ?_)
  refine WL.wantG rfl rfl rfl rfl (WL1.give rfl (g_move rfl (.mk (v := .int _ _) rfl rfl)) ?_)
  refine WL.wantG rfl rfl rfl rfl (WL1.give rfl (g_ne rfl (.mk rfl rfl) (.mk rfl rfl) (decide_eq_false (by omega))) ?_)
  refine wG rfl rfl (g_pickF rfl (.mk rfl rfl) (.mk (v := .bool _) rfl rfl)) ?_
  refine WL.nil ?_
  (refine hK _ _ ?_; clear hK)
  refine WC.cond_false (.mk rfl rfl) ?_
  refine WC.skip ?_
  (refine hK _ _ ?_; clear hK)
  refine WC.seq fun K hK => ?_
  refine WC.region rfl ?_
  refine wG rfl rfl (g_assign rfl (.mk (v := .slice _ _ _) rfl rfl)) ?_
  refine WL.nil ?_
  (refine hK _ _ ?_; clear hK)
  refine WC.seq fun K hK => ?_
  refine WC.region rfl ?_
  refine wG rfl rfl (g_assign rfl (.mk (v := .slice _ _ _) rfl rfl)) ?_
  refine WL.nil ?_
  (refine hK _ _ ?_; clear hK)
  refine WC.seq fun K hK => ?_
  refine WC.seq fun K hK => ?_
  refine WC.region rfl ?_
  refine wG rfl rfl (g_move rfl (.mk (v := .slice _ _ _) rfl rfl)) ?_
  refine wG rfl rfl (g_len rfl (.mk rfl rfl) rfl) ?_
  refine wG rfl rfl (g_move rfl (.mk (v := .int _ _) rfl rfl)) ?_
  refine WL.nil ?_
  (refine hK _ _ ?_; clear hK)
  refine WC.block ?_
  refine WC.nilvec 3 1 (WC.nilvec 38 8 ?_)
  refine WC.loopF5 (fun (i : Nat) (F : Option Addr) (fc : Nat) (Y : Option Addr) (yc : Nat) => [(29, iv i), (7, .slice F (gdT bs n i).length fc), (8, .slice Y (gdT bs n i).length yc), (0, .slice A m c), (1, .slice B m d), (6, iv m), (27, .slice B m d), (28, iv m), (4, .slice none 0 0), (5, iv 0)]) (fun i F fc Y yc => [vec F (gdT bs n i).length fc 3 1 (ldv (gdT bs n i)), vec Y (gdT bs n i).length yc 38 8 (kvs ((gdT bs n i).map (nth ps)))]) (fun i _ _ _ _ => i ≤ m) (fun i _ _ _ _ => m - i) 0 none 0 none 0 (by repeat (first | exact trivial | refine ⟨rfl, ?_⟩)) (Imp.pick (A := vec none 0 0 3 1 []) (by repeat (first | exact .head | apply Take.tail)) (Imp.pick (A := vec none 0 0 38 8 []) (by repeat (first | exact .head | apply Take.tail)) (Imp.nil _))) (by omega) ?_
  intro i F fc Y yc U hi
  have hgl := gdT_len (bs := bs) (n := n) i
  obtain ⟨g, hg⟩ : ∃ g, g = gdT bs n i := ⟨_, rfl⟩
  rw [← hg] at hgl ⊢
  have hml : (g.map (nth ps)).length = g.length := by rw [List.length_map]
  by_cases hlt : i < m
  · have hgv := bls_get (l := bs) (k := i) (by omega)
    cases hbi : nth bs i with
    | true =>
      rw [hbi] at hgv
      have hst : gdT bs n (i + 1) = g := by rw [gdT_bad hbi, hg]
      refine WC.seq fun K hK => ?_
      refine WC.region rfl ?_
      refine wG rfl rfl (g_lt rfl (.mk rfl rfl) (.mk rfl rfl) (decide_eq_true (by omega))) ?_
      refine WL.nil ?_
      (refine hK _ _ ?_; clear hK)
      refine WC.seq fun K hK => ?_
      refine WC.cond_true (.mk rfl rfl) ?_
      refine WC.skip ?_
      (refine hK _ _ ?_; clear hK)
      refine WC.seq fun K hK => ?_
      refine WC.block ?_
      refine WC.seq fun K hK => ?_
      refine WC.region rfl ?_
      refine wG rfl rfl (g_move rfl (.mk (v := .int _ _) rfl rfl)) ?_
      refine wG rfl rfl (g_indexAddr (sz := 1) rfl (.mk rfl rfl) (.mk rfl rfl) rfl rfl rfl (by omega) (fun _ _ => sl_some hsb (by omega))) ?_
      refine wG rfl rfl (g_load rfl (.mk rfl rfl) rfl (rd_sl hsb hgv)) ?_
      refine wG rfl rfl (g_assign rfl (.mk (v := .int _ _) rfl rfl)) ?_
      refine wG rfl rfl (g_assign rfl (.mk (v := .bool _) rfl rfl)) ?_
      refine WL.nil ?_
      (refine hK _ _ ?_; clear hK)
      refine WC.seq fun K hK => ?_
      refine WC.region rfl ?_
      refine wG rfl rfl (g_move rfl (.mk (v := .bool _) rfl rfl)) ?_
      refine wG rfl rfl (g_notT rfl (.mk rfl rfl)) ?_
      refine wG rfl rfl (g_move rfl (.mk (v := .bool _) rfl rfl)) ?_
      refine WL.skipG rfl rfl rfl rfl rfl rfl ?_
      refine WL.skipG rfl rfl rfl rfl rfl rfl ?_
      refine WL.skipG rfl rfl rfl rfl rfl rfl ?_
      refine WL.skipG rfl rfl rfl rfl rfl rfl ?_
      refine WL.skipG rfl rfl rfl rfl rfl rfl ?_
      refine wG rfl rfl (g_pickF rfl (.mk rfl rfl) (.mk (v := .bool _) rfl rfl)) ?_
      refine WL.nil ?_
      (refine hK _ _ ?_; clear hK)
      refine WC.cond_false (.mk rfl rfl) ?_
      refine WC.skip ?_
      (refine hK _ _ ?_; clear hK)
      refine WC.region rfl ?_
      refine wG rfl rfl (g_add rfl (.mk rfl rfl) (.mk rfl rfl) (IntWalk.i64_in _ (by omega))) ?_
      refine wG rfl rfl (g_move rfl (.mk (v := .int _ _) rfl rfl)) ?_
      refine WL.nil ?_
      exact ⟨i + 1, F, fc, Y, yc, by rw [hst]; exact (by repeat (first | exact trivial | refine ⟨rfl, ?_⟩)), by rw [hst]; exact .refl _, by omega, by omega⟩
    | false =>
      rw [hbi] at hgv
      by_cases hfl : g.length < n
      · have hst : gdT bs n (i + 1) = g ++ [i] := by rw [gdT_take hbi (by rw [← hg]; exact hfl), hg]
        have hgd : ∀ j u, (nth ps i).cells[j]? = some u → (kvs ps)[i * 8 + j]? = some u := fun j u h => flat_row blk8 (by omega) j u h
        have hl1 : (g ++ [i]).length = g.length + 1 := by rw [List.length_append]; rfl
        have hmp : (g ++ [i]).map (nth ps) = g.map (nth ps) ++ [nth ps i] := by rw [List.map_append]; rfl
        have hbb : ∀ {w' : World} {L' : List Asrt} {b : Nat} (hw : H w L' w') (hm : vec (some ⟨b, 0, none⟩) 1 1 38 8 (nth ps i).cells ∈ L'), Sl w' 8 (.slice (some ⟨b, 0, none⟩) 1 1) 1 (nth ps i).cells := fun hw hm => Sl.of_vec hw hm
        refine WC.seq fun K hK => ?_
        refine WC.region rfl ?_
        refine wG rfl rfl (g_lt rfl (.mk rfl rfl) (.mk rfl rfl) (decide_eq_true (by omega))) ?_
        refine WL.nil ?_
        (refine hK _ _ ?_; clear hK)
        refine WC.seq fun K hK => ?_
        refine WC.cond_true (.mk rfl rfl) ?_
        refine WC.skip ?_
        (refine hK _ _ ?_; clear hK)
        refine WC.seq fun K hK => ?_
        refine WC.block ?_
        refine WC.seq fun K hK => ?_
        refine WC.region rfl ?_
        refine wG rfl rfl (g_move rfl (.mk (v := .int _ _) rfl rfl)) ?_
        refine wG rfl rfl (g_indexAddr (sz := 1) rfl (.mk rfl rfl) (.mk rfl rfl) rfl rfl rfl (by omega) (fun _ _ => sl_some hsb (by omega))) ?_
        refine wG rfl rfl (g_load rfl (.mk rfl rfl) rfl (rd_sl hsb hgv)) ?_
        refine wG rfl rfl (g_assign rfl (.mk (v := .int _ _) rfl rfl)) ?_
        refine wG rfl rfl (g_assign rfl (.mk (v := .bool _) rfl rfl)) ?_
        refine WL.nil ?_
        (refine hK _ _ ?_; clear hK)
        refine WC.seq fun K hK => ?_
        refine WC.region rfl ?_
        refine wG rfl rfl (g_move rfl (.mk (v := .bool _) rfl rfl)) ?_
        refine wG rfl rfl (g_notF rfl (.mk rfl rfl)) ?_
        refine wG rfl rfl (g_move rfl (.mk (v := .bool _) rfl rfl)) ?_
        refine WL.wantG rfl rfl rfl rfl (WL1.give rfl (g_move rfl (.mk (v := .slice _ _ _) rfl rfl)) ?_)
        refine WL.wantG rfl rfl rfl rfl (WL1.give rfl (g_len rfl (.mk rfl rfl) rfl) ?_)
        refine WL.wantG rfl rfl rfl rfl (WL1.give rfl (g_move rfl (.mk (v := .int _ _) rfl rfl)) ?_)
        refine WL.wantG rfl rfl rfl rfl (WL1.give rfl (g_sub rfl (.mk rfl rfl) (.mk rfl rfl) hsub) ?_)
        refine WL.wantG rfl rfl rfl rfl (WL1.give rfl (g_lt rfl (.mk rfl rfl) (.mk rfl rfl) (decide_eq_true (by omega))) ?_)
        refine wG rfl rfl (g_pickT rfl (.mk rfl rfl) (.mk (v := .bool _) rfl rfl)) ?_
        refine WL.nil ?_
        (refine hK _ _ ?_; clear hK)
        refine WC.cond_true (.mk rfl rfl) ?_
        refine WC.until [] [] rfl (by kernel_rfl) ?_
        refine WB.takeP 0 rfl (by decide +kernel) (by decide +kernel) (by decide +kernel) (by decide +kernel) rfl rfl (.inr (Imp.sub (by first | ((repeat (first | exact List.nil_sublist _ | exact List.Sublist.refl _ | apply List.Sublist.cons_cons | apply List.Sublist.cons)); done) | fail))) (g_move rfl (.mk (v := .slice _ _ _) rfl rfl)) ?_
        refine WB.takeP 1 rfl (by decide +kernel) (by decide +kernel) (by decide +kernel) (by decide +kernel) rfl rfl (.inr (Imp.sub (by first | ((repeat (first | exact List.nil_sublist _ | exact List.Sublist.refl _ | apply List.Sublist.cons_cons | apply List.Sublist.cons)); done) | fail))) (g_move rfl (.mk (v := .int _ _) rfl rfl)) ?_
        refine WB.takeP 4 rfl (by decide +kernel) (by decide +kernel) (by decide +kernel) (by decide +kernel) rfl rfl (.inr (Imp.sub (by first | ((repeat (first | exact List.nil_sublist _ | exact List.Sublist.refl _ | apply List.Sublist.cons_cons | apply List.Sublist.cons)); done) | fail))) (g_move rfl (.mk (v := .slice _ _ _) rfl rfl)) ?_
        refine WB.takeP 5 rfl (by decide +kernel) (by decide +kernel) (by decide +kernel) (by decide +kernel) rfl rfl (.inr (Imp.sub (by first | ((repeat (first | exact List.nil_sublist _ | exact List.Sublist.refl _ | apply List.Sublist.cons_cons | apply List.Sublist.cons)); done) | fail))) (g_move rfl (.mk (v := .slice _ _ _) rfl rfl)) ?_
        refine WB.takeP 6 rfl (by decide +kernel) (by decide +kernel) (by decide +kernel) (by decide +kernel) rfl rfl (.inr (Imp.sub (by first | ((repeat (first | exact List.nil_sublist _ | exact List.Sublist.refl _ | apply List.Sublist.cons_cons | apply List.Sublist.cons)); done) | fail))) (g_move rfl (.mk (v := .int _ _) rfl rfl)) ?_
        refine WB.takeP 7 rfl (by decide +kernel) (by decide +kernel) (by decide +kernel) (by decide +kernel) rfl rfl (.inr (Imp.sub (by first | ((repeat (first | exact List.nil_sublist _ | exact List.Sublist.refl _ | apply List.Sublist.cons_cons | apply List.Sublist.cons)); done) | fail))) (g_indexAddr (sz := 8) rfl (.mk rfl rfl) (.mk rfl rfl) rfl rfl rfl (by omega) (fun _ _ => sl_some hs (by omega))) ?_
        refine WB.take 8 rfl (by decide +kernel) (by decide +kernel) (by decide +kernel) (by decide +kernel) rfl rfl (Imp.sub (by first | ((repeat (first | exact List.nil_sublist _ | exact List.Sublist.refl _ | apply List.Sublist.cons_cons | apply List.Sublist.cons)); done) | fail)) (g_loadA rfl (.mk rfl rfl) rfl (sz8 _) (rdr_sl hs (by omega) hgd)) ?_
        refine WB.two 2 9 (by decide +kernel) rfl rfl rfl rfl ?_ ?_
        refine WL1.lit (cs := [_]) elI rfl rfl rfl (.cons (.mk (v := .int _ _) rfl rfl) .nil) rfl (by first | (simp [Value.cells]; done) | fail) rfl rfl (fun b45 => ?_)
        refine WL.nil ?_
        refine ⟨.inr (Imp.sub (by first | ((repeat (first | exact List.nil_sublist _ | exact List.Sublist.refl _ | apply List.Sublist.cons_cons | apply List.Sublist.cons)); done) | fail)), ?_⟩
        refine WB.two 3 9 (by decide +kernel) rfl rfl rfl rfl ?_ ?_
        refine WL1.append elI rfl rfl (.mk rfl rfl) (.mk rfl rfl) (.tail (.head)) (fun w hw => Sl.of_vec hw (.head _)) (all1 rfl) (by unfold maxLen; omega) (by omega) (fun A46 c46 => ?_)
        refine WL.nil ?_
        refine ⟨.inr (Imp.sub (by first | ((repeat (first | exact List.nil_sublist _ | exact List.Sublist.refl _ | apply List.Sublist.cons_cons | apply List.Sublist.cons)); done) | fail)), ?_⟩
        refine WB.one 9 (by decide +kernel) rfl rfl ?_
        refine WL1.lit elK rfl rfl rfl (.cons (.mk (v := .agg _) rfl rfl) .nil) rfl (by first | (simp [Value.cells, Blk.len]; done) | fail) (List.append_nil _) rfl (fun b52 => ?_)
        refine WL.nil ?_
        refine ⟨.inr (Imp.sub (by first | ((repeat (first | exact List.nil_sublist _ | exact List.Sublist.refl _ | apply List.Sublist.cons_cons | apply List.Sublist.cons)); done) | fail)), ?_⟩
        refine WB.one 10 (by decide +kernel) rfl rfl ?_
        refine WL1.append elK rfl rfl (.mk rfl rfl) (.mk rfl rfl) (.tail (.tail (.tail (.head)))) (fun w hw => Sl.of_vec hw (.head _)) (Blk.one _) (by unfold maxLen; omega) (by omega) (fun A53 c53 => ?_)
        refine WL.nil ?_
        refine ⟨.inr (Imp.sub (by first | ((repeat (first | exact List.nil_sublist _ | exact List.Sublist.refl _ | apply List.Sublist.cons_cons | apply List.Sublist.cons)); done) | fail)), ?_⟩
        refine WB.takeP 11 rfl (by decide +kernel) (by decide +kernel) (by decide +kernel) (by decide +kernel) rfl rfl (.inr (Imp.sub (by first | ((repeat (first | exact List.nil_sublist _ | exact List.Sublist.refl _ | apply List.Sublist.cons_cons | apply List.Sublist.cons)); done) | fail))) (g_assign rfl (.mk (v := .slice _ _ _) rfl rfl)) ?_
        refine WB.takeP 12 rfl (by decide +kernel) (by decide +kernel) (by decide +kernel) (by decide +kernel) rfl rfl (.inr (Imp.sub (by first | ((repeat (first | exact List.nil_sublist _ | exact List.Sublist.refl _ | apply List.Sublist.cons_cons | apply List.Sublist.cons)); done) | fail))) (g_assign rfl (.mk (v := .slice _ _ _) rfl rfl)) ?_
        refine WB.done (by decide +kernel) ?_
        (refine hK _ _ ?_; clear hK)
        refine WC.region rfl ?_
        refine wG rfl rfl (g_add rfl (.mk rfl rfl) (.mk rfl rfl) (IntWalk.i64_in _ (by omega))) ?_
        refine wG rfl rfl (g_move rfl (.mk (v := .int _ _) rfl rfl)) ?_
        refine WL.nil ?_
        rotate_left
        refine WL1.lit elK rfl rfl rfl (.cons (.mk (v := .agg _) rfl rfl) .nil) rfl (by first | (simp [Value.cells, Blk.len]; done) | fail) (List.append_nil _) rfl (fun b52 => ?_)
        refine WL.nil ?_
        refine ⟨.inr (Imp.sub (by first | ((repeat (first | exact List.nil_sublist _ | exact List.Sublist.refl _ | apply List.Sublist.cons_cons | apply List.Sublist.cons)); done) | fail)), ?_⟩
        refine WB.one 3 (by decide +kernel) rfl rfl ?_
        refine WL1.append elI rfl rfl (.mk rfl rfl) (.mk rfl rfl) (.tail (.tail (.head))) (fun w hw => Sl.of_vec hw (.tail _ (.head _))) (all1 rfl) (by unfold maxLen; omega) (by omega) (fun A46 c46 => ?_)
        refine WL.nil ?_
        refine ⟨.inr (Imp.sub (by first | ((repeat (first | exact List.nil_sublist _ | exact List.Sublist.refl _ | apply List.Sublist.cons_cons | apply List.Sublist.cons)); done) | fail)), ?_⟩
        refine WB.one 10 (by decide +kernel) rfl rfl ?_
        refine WL1.append elK rfl rfl (.mk rfl rfl) (.mk rfl rfl) (.tail (.tail (.tail (.head)))) (fun w hw => Sl.of_vec hw (.tail _ (.head _))) (Blk.one _) (by unfold maxLen; omega) (by omega) (fun A53 c53 => ?_)
        refine WL.nil ?_
        refine ⟨.inr (Imp.sub (by first | ((repeat (first | exact List.nil_sublist _ | exact List.Sublist.refl _ | apply List.Sublist.cons_cons | apply List.Sublist.cons)); done) | fail)), ?_⟩
        refine WB.takeP 11 rfl (by decide +kernel) (by decide +kernel) (by decide +kernel) (by decide +kernel) rfl rfl (.inr (Imp.sub (by first | ((repeat (first | exact List.nil_sublist _ | exact List.Sublist.refl _ | apply List.Sublist.cons_cons | apply List.Sublist.cons)); done) | fail))) (g_assign rfl (.mk (v := .slice _ _ _) rfl rfl)) ?_
        refine WB.takeP 12 rfl (by decide +kernel) (by decide +kernel) (by decide +kernel) (by decide +kernel) rfl rfl (.inr (Imp.sub (by first | ((repeat (first | exact List.nil_sublist _ | exact List.Sublist.refl _ | apply List.Sublist.cons_cons | apply List.Sublist.cons)); done) | fail))) (g_assign rfl (.mk (v := .slice _ _ _) rfl rfl)) ?_
        refine WB.done (by decide +kernel) ?_
        (refine hK _ _ ?_; clear hK)
        refine WC.region rfl ?_
        refine wG rfl rfl (g_add rfl (.mk rfl rfl) (.mk rfl rfl) (IntWalk.i64_in _ (by omega))) ?_
        refine wG rfl rfl (g_move rfl (.mk (v := .int _ _) rfl rfl)) ?_
        refine WL.nil ?_
        rotate_left
        refine WL1.lit elK rfl rfl rfl (.cons (.mk (v := .agg _) rfl rfl) .nil) rfl (by first | (simp [Value.cells, Blk.len]; done) | fail) (List.append_nil _) rfl (fun b52 => ?_)
        refine WL.nil ?_
        refine ⟨.inr (Imp.sub (by first | ((repeat (first | exact List.nil_sublist _ | exact List.Sublist.refl _ | apply List.Sublist.cons_cons | apply List.Sublist.cons)); done) | fail)), ?_⟩
        refine WB.one 2 (by decide +kernel) rfl rfl ?_
        refine WL1.lit (cs := [_]) elI rfl rfl rfl (.cons (.mk (v := .int _ _) rfl rfl) .nil) rfl (by first | (simp [Value.cells]; done) | fail) rfl rfl (fun b45 => ?_)
        refine WL.nil ?_
        refine ⟨.inr (Imp.sub (by first | ((repeat (first | exact List.nil_sublist _ | exact List.Sublist.refl _ | apply List.Sublist.cons_cons | apply List.Sublist.cons)); done) | fail)), ?_⟩
        refine WB.one 3 (by decide +kernel) rfl rfl ?_
        refine WL1.append elI rfl rfl (.mk rfl rfl) (.mk rfl rfl) (.tail (.tail (.head))) (fun w hw => Sl.of_vec hw (.head _)) (all1 rfl) (by unfold maxLen; omega) (by omega) (fun A46 c46 => ?_)
        refine WL.nil ?_
        refine ⟨.inr (Imp.sub (by first | ((repeat (first | exact List.nil_sublist _ | exact List.Sublist.refl _ | apply List.Sublist.cons_cons | apply List.Sublist.cons)); done) | fail)), ?_⟩
        refine WB.one 10 (by decide +kernel) rfl rfl ?_
        refine WL1.append elK rfl rfl (.mk rfl rfl) (.mk rfl rfl) (.tail (.tail (.tail (.head)))) (fun w hw => Sl.of_vec hw (.tail _ (.tail _ (.head _)))) (Blk.one _) (by unfold maxLen; omega) (by omega) (fun A53 c53 => ?_)
        refine WL.nil ?_
        refine ⟨.inr (Imp.sub (by first | ((repeat (first | exact List.nil_sublist _ | exact List.Sublist.refl _ | apply List.Sublist.cons_cons | apply List.Sublist.cons)); done) | fail)), ?_⟩
        refine WB.takeP 11 rfl (by decide +kernel) (by decide +kernel) (by decide +kernel) (by decide +kernel) rfl rfl (.inr (Imp.sub (by first | ((repeat (first | exact List.nil_sublist _ | exact List.Sublist.refl _ | apply List.Sublist.cons_cons | apply List.Sublist.cons)); done) | fail))) (g_assign rfl (.mk (v := .slice _ _ _) rfl rfl)) ?_
        refine WB.takeP 12 rfl (by decide +kernel) (by decide +kernel) (by decide +kernel) (by decide +kernel) rfl rfl (.inr (Imp.sub (by first | ((repeat (first | exact List.nil_sublist _ | exact List.Sublist.refl _ | apply List.Sublist.cons_cons | apply List.Sublist.cons)); done) | fail))) (g_assign rfl (.mk (v := .slice _ _ _) rfl rfl)) ?_
        refine WB.done (by decide +kernel) ?_
        (refine hK _ _ ?_; clear hK)
        refine WC.region rfl ?_
        refine wG rfl rfl (g_add rfl (.mk rfl rfl) (.mk rfl rfl) (IntWalk.i64_in _ (by omega))) ?_
        refine wG rfl rfl (g_move rfl (.mk (v := .int _ _) rfl rfl)) ?_
        refine WL.nil ?_
        rotate_left
        all_goals refine ⟨i + 1, A46, c46, A53, c53, by rw [hst, hl1]; exact (by repeat (first | exact trivial | refine ⟨rfl, ?_⟩)), ?_, by omega, by omega⟩
        all_goals rw [hst, hl1, hmp, ← ldv_snoc, ← kvs_snoc]
        all_goals exact Imp.pick (by repeat (first | exact .head | apply Take.tail)) (Imp.pick (by repeat (first | exact .head | apply Take.tail)) (Imp.nil _))
      · have hst : gdT bs n (i + 1) = g := by rw [gdT_over (by rw [← hg]; exact hfl), hg]
        refine WC.seq fun K hK => ?_
        refine WC.region rfl ?_
        refine wG rfl rfl (g_lt rfl (.mk rfl rfl) (.mk rfl rfl) (decide_eq_true (by omega))) ?_
        refine WL.nil ?_
        (refine hK _ _ ?_; clear hK)
        refine WC.seq fun K hK => ?_
        refine WC.cond_true (.mk rfl rfl) ?_
        refine WC.skip ?_
        (refine hK _ _ ?_; clear hK)
        refine WC.seq fun K hK => ?_
        refine WC.block ?_
        refine WC.seq fun K hK => ?_
        refine WC.region rfl ?_
        refine wG rfl rfl (g_move rfl (.mk (v := .int _ _) rfl rfl)) ?_
        refine wG rfl rfl (g_indexAddr (sz := 1) rfl (.mk rfl rfl) (.mk rfl rfl) rfl rfl rfl (by omega) (fun _ _ => sl_some hsb (by omega))) ?_
        refine wG rfl rfl (g_load rfl (.mk rfl rfl) rfl (rd_sl hsb hgv)) ?_
        refine wG rfl rfl (g_assign rfl (.mk (v := .int _ _) rfl rfl)) ?_
        refine wG rfl rfl (g_assign rfl (.mk (v := .bool _) rfl rfl)) ?_
        refine WL.nil ?_
        (refine hK _ _ ?_; clear hK)
        refine WC.seq fun K hK => ?_
        refine WC.region rfl ?_
        refine wG rfl rfl (g_move rfl (.mk (v := .bool _) rfl rfl)) ?_
        refine wG rfl rfl (g_notF rfl (.mk rfl rfl)) ?_
        refine wG rfl rfl (g_move rfl (.mk (v := .bool _) rfl rfl)) ?_
        refine WL.wantG rfl rfl rfl rfl (WL1.give rfl (g_move rfl (.mk (v := .slice _ _ _) rfl rfl)) ?_)
        refine WL.wantG rfl rfl rfl rfl (WL1.give rfl (g_len rfl (.mk rfl rfl) rfl) ?_)
        refine WL.wantG rfl rfl rfl rfl (WL1.give rfl (g_move rfl (.mk (v := .int _ _) rfl rfl)) ?_)
        refine WL.wantG rfl rfl rfl rfl (WL1.give rfl (g_sub rfl (.mk rfl rfl) (.mk rfl rfl) hsub) ?_)
        refine WL.wantG rfl rfl rfl rfl (WL1.give rfl (g_lt rfl (.mk rfl rfl) (.mk rfl rfl) (decide_eq_false (by omega))) ?_)
        refine wG rfl rfl (g_pickT rfl (.mk rfl rfl) (.mk (v := .bool _) rfl rfl)) ?_
        refine WL.nil ?_
        (refine hK _ _ ?_; clear hK)
        refine WC.cond_false (.mk rfl rfl) ?_
        refine WC.skip ?_
        (refine hK _ _ ?_; clear hK)
        refine WC.region rfl ?_
        refine wG rfl rfl (g_add rfl (.mk rfl rfl) (.mk rfl rfl) (IntWalk.i64_in _ (by omega))) ?_
        refine wG rfl rfl (g_move rfl (.mk (v := .int _ _) rfl rfl)) ?_
        refine WL.nil ?_
        exact ⟨i + 1, F, fc, Y, yc, by rw [hst]; exact (by repeat (first | exact trivial | refine ⟨rfl, ?_⟩)), by rw [hst]; exact .refl _, by omega, by omega⟩
  · obtain rfl : i = m := by omega
    have hcl := cnt_le (bs := bs) i
    by_cases hfl : g.length < n
    · refine WC.seq fun K hK => ?_
      refine WC.region rfl ?_
      refine wG rfl rfl (g_lt rfl (.mk rfl rfl) (.mk rfl rfl) (decide_eq_false (by omega))) ?_
      refine WL.nil ?_
      (refine hK _ _ ?_; clear hK)
      refine WC.seq fun K hK => ?_
      refine WC.cond_false (.mk rfl rfl) ?_
      refine WC.exit ?_
      (clear hK; refine hK _ _ ?_; clear hK)
      refine WC.seq fun K hK => ?_
      refine WC.seq fun K hK => ?_
      refine WC.region rfl ?_
      refine wG rfl rfl (g_move rfl (.mk (v := .slice _ _ _) rfl rfl)) ?_
      refine wG rfl rfl (g_len rfl (.mk rfl rfl) rfl) ?_
      refine wG rfl rfl (g_move rfl (.mk (v := .int _ _) rfl rfl)) ?_
      refine wG rfl rfl (g_sub rfl (.mk rfl rfl) (.mk rfl rfl) hsub) ?_
      refine wG rfl rfl (g_lt rfl (.mk rfl rfl) (.mk rfl rfl) (decide_eq_true (by omega))) ?_
      refine WL.nil ?_
      (refine hK _ _ ?_; clear hK)
      refine WC.cond_true (.mk rfl rfl) ?_
      refine WC.seq fun K hK => ?_
      refine WC.region rfl ?_
      refine wG rfl rfl (g_assign rfl (.mk (v := .slice _ _ _) rfl rfl)) ?_
      refine wG rfl rfl (g_assign rfl (.mk (v := .int _ _) rfl rfl)) ?_
      refine WL.nil ?_
      (refine hK _ _ ?_; clear hK)
      refine WC.ret ?_
      exact fun w' hw' => ⟨_, _, rfl, hw', .inl ⟨by omega, rfl⟩⟩
    · have hc3 : cnt bs (n + 3) ≤ 3 := by rw [← hmn]; omega
      have hgn : g.length = n := by omega
      have hw := gdT_wfr hc3
      rw [← hmn, ← hg] at hw
      have hcln : ∀ w', Below w.heap.size w w' → Calls Try.prog 36 #[.slice A i c] w' fun e w2 => ∃ v' M, e = .returned v' ∧ H w' M w2 ∧ ∃ A c, v' = .slice A i c ∧ M = [vec A i c 38 8 (kvs (decP ps bs n 0))] := fun w' hb => by
        have := clone_n (.slice A i c) ps w' (by rw [hpl]; exact hs.below hb) (by omega) (by omega)
        rwa [hpl, ← decP_zero (bs := bs) (by omega : ps.length = n + 3)] at this
      rw [hgn]
      refine WC.seq fun K hK => ?_
      refine WC.region rfl ?_
      refine wG rfl rfl (g_lt rfl (.mk rfl rfl) (.mk rfl rfl) (decide_eq_false (by omega))) ?_
      refine WL.nil ?_
      (refine hK _ _ ?_; clear hK)
      refine WC.seq fun K hK => ?_
      refine WC.cond_false (.mk rfl rfl) ?_
      refine WC.exit ?_
      (clear hK; refine hK _ _ ?_; clear hK)
      refine WC.seq fun K hK => ?_
      refine WC.seq fun K hK => ?_
      refine WC.region rfl ?_
      refine wG rfl rfl (g_move rfl (.mk (v := .slice _ _ _) rfl rfl)) ?_
      refine wG rfl rfl (g_len rfl (.mk rfl rfl) rfl) ?_
      refine wG rfl rfl (g_move rfl (.mk (v := .int _ _) rfl rfl)) ?_
      refine wG rfl rfl (g_sub rfl (.mk rfl rfl) (.mk rfl rfl) hsub) ?_
      refine wG rfl rfl (g_lt rfl (.mk rfl rfl) (.mk rfl rfl) (decide_eq_false (by omega))) ?_
      refine WL.nil ?_
      (refine hK _ _ ?_; clear hK)
      refine WC.cond_false (.mk rfl rfl) ?_
      refine WC.skip ?_
      (refine hK _ _ ?_; clear hK)
      refine WC.seq fun K hK => ?_
      refine WC.region rfl ?_
      refine wG rfl rfl (g_move rfl (.mk (v := .slice _ _ _) rfl rfl)) ?_
      (refine WL.want rfl (WL1.callN rfl rfl rfl (.cons (.mk (v := .slice _ _ _) rfl rfl) .nil) (fun w hw => hcln w hw.1) ?_); rintro _ _ ⟨Ac, cc, rfl, rfl⟩)
      refine wG rfl rfl (g_assign rfl (.mk (v := .slice _ _ _) rfl rfl)) ?_
      refine WL.nil ?_
      (refine hK _ _ ?_; clear hK)
      refine WC.seq fun K hK => ?_
      refine WC.seq fun K hK => ?_
      refine WC.region rfl ?_
      refine wG rfl rfl (g_move rfl (.mk (v := .slice _ _ _) rfl rfl)) ?_
      refine wG rfl rfl (g_len rfl (.mk rfl rfl) rfl) ?_
      refine wG rfl rfl (g_move rfl (.mk (v := .int _ _) rfl rfl)) ?_
      refine WL.nil ?_
      (refine hK _ _ ?_; clear hK)
      refine WC.block ?_
      refine WC.loopF (fun j : Nat => [(64, iv j), (6, iv i), (7, .slice F n fc), (8, .slice Y n yc), (11, .slice Ac i cc), (62, .slice B i d), (63, iv i), (4, .slice none 0 0), (5, iv 0)]) (fun j => [vec Ac i cc 38 8 (kvs (decP ps bs n j)), vec F n fc 3 1 (ldv g), vec Y n yc 38 8 (kvs (g.map (nth ps)))]) (fun j => j ≤ i) (fun j => i - j) 0 (by repeat (first | exact trivial | refine ⟨rfl, ?_⟩)) (.refl _) (by omega) ?_
      intro j V hj
      have hdl := decP_len ps bs n j
      have hkl : (kvs (decP ps bs n j)).length = i * 8 := by rw [kvs_len, hdl, hmn]
      by_cases hlt2 : j < i
      · have hgv := bls_get (l := bs) (k := j) (by omega)
        cases hbj : nth bs j with
        | false =>
          rw [hbj] at hgv
          refine WC.seq fun K hK => ?_
          refine WC.region rfl ?_
          refine wG rfl rfl (g_lt rfl (.mk rfl rfl) (.mk rfl rfl) (decide_eq_true (by omega))) ?_
          refine WL.nil ?_
          (refine hK _ _ ?_; clear hK)
          refine WC.seq fun K hK => ?_
          refine WC.cond_true (.mk rfl rfl) ?_
          refine WC.skip ?_
          (refine hK _ _ ?_; clear hK)
          refine WC.seq fun K hK => ?_
          refine WC.block ?_
          refine WC.seq fun K hK => ?_
          refine WC.region rfl ?_
          refine wG rfl rfl (g_move rfl (.mk (v := .int _ _) rfl rfl)) ?_
          refine wG rfl rfl (g_indexAddr (sz := 1) rfl (.mk rfl rfl) (.mk rfl rfl) rfl rfl rfl (by omega) (fun _ _ => sl_some hsb (by omega))) ?_
          refine wG rfl rfl (g_load rfl (.mk rfl rfl) rfl (rd_sl hsb hgv)) ?_
          refine wG rfl rfl (g_assign rfl (.mk (v := .int _ _) rfl rfl)) ?_
          refine wG rfl rfl (g_assign rfl (.mk (v := .bool _) rfl rfl)) ?_
          refine WL.nil ?_
          (refine hK _ _ ?_; clear hK)
          refine WC.seq fun K hK => ?_
          refine WC.seq fun K hK => ?_
          refine WC.region rfl ?_
          refine wG rfl rfl (g_move rfl (.mk (v := .bool _) rfl rfl)) ?_
          refine wG rfl rfl (g_notF rfl (.mk rfl rfl)) ?_
          refine WL.nil ?_
          (refine hK _ _ ?_; clear hK)
          refine WC.cond_true (.mk rfl rfl) ?_
          refine WC.exit ?_
          (clear hK; refine hK _ _ ?_; clear hK)
          refine WC.region rfl ?_
          refine wG rfl rfl (g_add rfl (.mk rfl rfl) (.mk rfl rfl) (IntWalk.i64_in _ (by omega))) ?_
          refine wG rfl rfl (g_move rfl (.mk (v := .int _ _) rfl rfl)) ?_
          refine WL.nil ?_
          exact ⟨j + 1, (by repeat (first | exact trivial | refine ⟨rfl, ?_⟩)), by rw [decP_skip (by rw [hbj]; exact Bool.false_ne_true)]; exact .refl _, by omega, by omega⟩
        | true =>
          rw [hbj] at hgv
          have hwt : ∀ w', Sl w' 1 (.slice F n fc) n (ldv g) → Calls Try.prog 86 #[iv i, .slice F n fc, iv j] w' fun e w2 => ∃ v' M, e = .returned v' ∧ H w' M w2 ∧ ∃ A c, v' = .tuple #[.slice A n c, iv 0] ∧ M = [vec A n c 5 1 (bvs (wts n g j))] := fun w' h => weights_n _ i n j g w' (by rw [hgn]; exact h) hmn h1 h2 hw hlt2
          have hwl := wts_len n g j
          have hcb : ∀ (v1 : Value) (w' : World), Sl w' 1 v1 n (bvs (wts n g j)) → Sl w' 8 (.slice Y n yc) n (kvs (g.map (nth ps))) → Calls Try.prog 87 #[v1, .slice Y n yc] w' fun e w2 => e = .returned (.tuple #[kv (comb (wts n g j) (g.map (nth ps)) n), iv 0]) ∧ Below w'.heap.size w' w2 := fun v1 w' q1 q2 => by
            have := combine_e v1 (.slice Y n yc) (wts n g j) (g.map (nth ps)) w' (by rw [hwl]; exact q1) (by rw [hml, hgn]; exact q2) (by rw [hwl, hml, hgn]) (by omega)
            rwa [hwl] at this
          have hset : (decP ps bs n j).set j (comb (wts n g j) (g.map (nth ps)) n) = decP ps bs n (j + 1) := by
            have := decP_set (ps := ps) (bs := bs) (n := n) (j := j) (by omega) hbj
            rwa [← hmn, ← hg] at this
          have hsp : ∀ i0 v0, i0 = j * 8 → v0 = (comb (wts n g j) (g.map (nth ps)) n).cells → spl (kvs (decP ps bs n j)) i0 v0 = kvs (decP ps bs n (j + 1)) := fun i0 v0 h h' => (kvs_spl (by omega) h h').trans (congrArg kvs hset)
          refine WC.seq fun K hK => ?_
          refine WC.region rfl ?_
          refine wG rfl rfl (g_lt rfl (.mk rfl rfl) (.mk rfl rfl) (decide_eq_true (by omega))) ?_
          refine WL.nil ?_
          (refine hK _ _ ?_; clear hK)
          refine WC.seq fun K hK => ?_
          refine WC.cond_true (.mk rfl rfl) ?_
          refine WC.skip ?_
          (refine hK _ _ ?_; clear hK)
          refine WC.seq fun K hK => ?_
          refine WC.block ?_
          refine WC.seq fun K hK => ?_
          refine WC.region rfl ?_
          refine wG rfl rfl (g_move rfl (.mk (v := .int _ _) rfl rfl)) ?_
          refine wG rfl rfl (g_indexAddr (sz := 1) rfl (.mk rfl rfl) (.mk rfl rfl) rfl rfl rfl (by omega) (fun _ _ => sl_some hsb (by omega))) ?_
          refine wG rfl rfl (g_load rfl (.mk rfl rfl) rfl (rd_sl hsb hgv)) ?_
          refine wG rfl rfl (g_assign rfl (.mk (v := .int _ _) rfl rfl)) ?_
          refine wG rfl rfl (g_assign rfl (.mk (v := .bool _) rfl rfl)) ?_
          refine WL.nil ?_
          (refine hK _ _ ?_; clear hK)
          refine WC.seq fun K hK => ?_
          refine WC.seq fun K hK => ?_
          refine WC.region rfl ?_
          refine wG rfl rfl (g_move rfl (.mk (v := .bool _) rfl rfl)) ?_
          refine wG rfl rfl (g_notT rfl (.mk rfl rfl)) ?_
          refine WL.nil ?_
          (refine hK _ _ ?_; clear hK)
          refine WC.cond_false (.mk rfl rfl) ?_
          refine WC.skip ?_
          (refine hK _ _ ?_; clear hK)
          refine WC.seq fun K hK => ?_
          refine WC.region rfl ?_
          refine wG rfl rfl (g_move rfl (.mk (v := .int _ _) rfl rfl)) ?_
          refine wG rfl rfl (g_move rfl (.mk (v := .slice _ _ _) rfl rfl)) ?_
          refine wG rfl rfl (g_move rfl (.mk (v := .int _ _) rfl rfl)) ?_
          (refine WL.want rfl (WL1.callN rfl rfl rfl (.cons (.mk (v := .int _ _) rfl rfl) (.cons (.mk (v := .slice _ _ _) rfl rfl) (.cons (.mk (v := .int _ _) rfl rfl) .nil))) (fun w hw => hwt w (Sl.of_vec hw (by repeat (first | exact .head _ | apply List.Mem.tail)))) ?_); rintro _ _ ⟨Aw, cw, rfl, rfl⟩)
          refine wG rfl rfl (g_move rfl (.mk (v := .tuple _) rfl rfl)) ?_
          refine wG rfl rfl (g_extract rfl (.mk rfl rfl) rfl) ?_
          refine wG rfl rfl (g_extract rfl (.mk rfl rfl) rfl) ?_
          refine wG rfl rfl (g_assign rfl (.mk (v := .slice _ _ _) rfl rfl)) ?_
          refine wG rfl rfl (g_assign rfl (.mk (v := .int _ _) rfl rfl)) ?_
          refine WL.nil ?_
          (refine hK _ _ ?_; clear hK)
          refine WC.seq fun K hK => ?_
          refine WC.seq fun K hK => ?_
          refine WC.region rfl ?_
          refine wG rfl rfl (g_move rfl (.mk (v := .int _ _) rfl rfl)) ?_
          refine wG rfl rfl (g_ne rfl (.mk rfl rfl) (.mk rfl rfl) (decide_eq_false (by omega))) ?_
          refine WL.nil ?_
          (refine hK _ _ ?_; clear hK)
          refine WC.cond_false (.mk rfl rfl) ?_
          refine WC.skip ?_
          (refine hK _ _ ?_; clear hK)
          refine WC.region rfl ?_
          refine wG rfl rfl (g_move rfl (.mk (v := .slice _ _ _) rfl rfl)) ?_
          refine wG rfl rfl (g_move rfl (.mk (v := .int _ _) rfl rfl)) ?_
          refine wG rfl rfl (g_move rfl (.mk (v := .slice _ _ _) rfl rfl)) ?_
          refine wG rfl rfl (g_move rfl (.mk (v := .slice _ _ _) rfl rfl)) ?_
          refine WL.want rfl (WL1.callP rfl rfl rfl (.cons (.mk (v := .slice _ _ _) rfl rfl) (.cons (.mk (v := .slice _ _ _) rfl rfl) .nil)) (fun w hw => hcb _ w (Sl.of_vec hw (by repeat (first | exact .head _ | apply List.Mem.tail))) (Sl.of_vec hw (by repeat (first | exact .head _ | apply List.Mem.tail)))) ?_)
          refine wG rfl rfl (g_move rfl (.mk (v := .tuple _) rfl rfl)) ?_
          refine wG rfl rfl (g_extract rfl (.mk rfl rfl) rfl) ?_
          refine wG rfl rfl (g_extract rfl (.mk rfl rfl) rfl) ?_
          refine wG rfl rfl (g_indexAddr (sz := 8) rfl (.mk rfl rfl) (.mk rfl rfl) rfl rfl rfl (by omega) (fun w hw => vec_some hw (.tail _ (.head _)) (by omega))) ?_
          refine WL.want rfl (WL1.storeVA rfl rfl (.mk rfl rfl) (.mk rfl rfl) (sz8 _) (Blk.one _) (by first | decide | omega | exact Nat.le_of_ble_eq_true rfl | (simp; done) | (simp; omega) | (rw [Blk.len]; omega)) (by first | omega | (rw [Blk.len]; omega) | (simp; done) | (simp; omega)) (.tail (.head)) ?_)
          refine WL.nil ?_
          (refine hK _ _ ?_; clear hK)
          refine WC.region rfl ?_
          refine wG rfl rfl (g_add rfl (.mk rfl rfl) (.mk rfl rfl) (IntWalk.i64_in _ (by omega))) ?_
          refine wG rfl rfl (g_move rfl (.mk (v := .int _ _) rfl rfl)) ?_
          refine WL.nil ?_
          refine ⟨j + 1, (by repeat (first | exact trivial | refine ⟨rfl, ?_⟩)), ?_, by omega, by omega⟩
          rw [hsp]
          · exact Imp.pick (by repeat (first | exact .head | apply Take.tail)) (Imp.pick (by repeat (first | exact .head | apply Take.tail)) (Imp.pick (by repeat (first | exact .head | apply Take.tail)) (Imp.nil _)))
          · omega
          · rfl
      · obtain rfl : j = i := by omega
        have hfin : decP ps bs n j = decL ps bs n := by rw [decL, hmn]
        rw [hfin]
        refine WC.seq fun K hK => ?_
        refine WC.region rfl ?_
        refine wG rfl rfl (g_lt rfl (.mk rfl rfl) (.mk rfl rfl) (decide_eq_false (by omega))) ?_
        refine WL.nil ?_
        (refine hK _ _ ?_; clear hK)
        refine WC.seq fun K hK => ?_
        refine WC.cond_false (.mk rfl rfl) ?_
        refine WC.exit ?_
        (clear hK; refine hK _ _ ?_; clear hK)
        refine WC.seq fun K hK => ?_
        refine WC.region rfl ?_
        refine wG rfl rfl (g_move rfl (.mk (v := .slice _ _ _) rfl rfl)) ?_
        refine wG rfl rfl (g_assign rfl (.mk (v := .slice _ _ _) rfl rfl)) ?_
        refine wG rfl rfl (g_assign rfl (.mk (v := .int _ _) rfl rfl)) ?_
        refine WL.nil ?_
        (refine hK _ _ ?_; clear hK)
        refine WC.ret ?_
        exact fun w' hw' => ⟨_, _, rfl, hw'.sub (.cons_cons _ (.cons _ (.cons _ .slnil))), .inr ⟨by rw [hmn]; exact hc3, Ac, cc, rfl, rfl⟩⟩
end Go.Proofs.Ytnkbnponpknokaa
namespace Go.Proofs.Ytnkbnponpknokaa
set_option maxRecDepth 20000
open Go.RowKit
attribute [local irreducible] Calls
set_option maxHeartbeats 1000000 in
theorem count_e (vb : Value) (bs : List Bool) (w : World) (hb : Sl w 1 vb bs.length (bls bs)) (hl : bs.length ≤ 1000) : Calls Try.prog 89 #[vb] w fun e w' => e = .returned (iv (cnt bs bs.length)) ∧ Below w.heap.size w w' := by
  obtain ⟨B, d, rfl, hcd, hmd, hsb⟩ := hb.open_
  refine calls_wc (args := [.slice B bs.length d]) [2] [] Try.func89 rfl Try.ntmps89 rfl rfl rfl rfl (H.refl w) ?_
  refine WC.seq fun K hK => ?_
  refine WC.region rfl ?_
  refine wG rfl rfl (g_assign rfl (.mk (v := .int _ _) rfl rfl)) ?_
  refine WL.nil ?_
  (refine hK _ _ ?_; clear hK)
  refine WC.seq fun K hK => ?_
  refine WC.region rfl ?_
  refine wG rfl rfl (g_assign rfl (.mk (v := .int _ _) rfl rfl)) ?_
  refine WL.nil ?_
  (refine hK _ _ ?_; clear hK)
  refine WC.seq fun K hK => ?_
  refine WC.seq fun K hK => ?_
  refine WC.region rfl ?_
  refine wG rfl rfl (g_assign rfl (.mk (v := .int _ _) rfl rfl)) ?_
  refine WL.nil ?_
  (refine hK _ _ ?_; clear hK)
  refine WC.block ?_
  refine WC.loopF (fun i : Nat => [(4, iv i), (3, iv (cnt bs i)), (0, .slice B bs.length d)]) (fun _ => []) (fun i => i ≤ bs.length) (fun i => bs.length - i) 0 (by repeat (first | exact trivial | refine ⟨rfl, ?_⟩)) (Imp.nil _) (by omega) ?_
  intro i U hi
  have hcl := cnt_le (bs := bs) i
  by_cases hlt : i < bs.length
  · have hgv := bls_get (l := bs) (k := i) hlt
    have hst : cnt bs (i + 1) = cnt bs i + if nth bs i then 1 else 0 := rfl
    cases hbi : nth bs i with
    | true =>
      rw [hbi] at hgv hst
      replace hst : cnt bs (i + 1) = cnt bs i + 1 := hst
      refine WC.seq fun K hK => ?_
      refine WC.seq fun K hK => ?_
      refine WC.region rfl ?_
      refine wG rfl rfl (g_move rfl (.mk (v := .int _ _) rfl rfl)) ?_
      refine wG rfl rfl (g_move rfl (.mk (v := .slice _ _ _) rfl rfl)) ?_
      refine wG rfl rfl (g_len rfl (.mk rfl rfl) rfl) ?_
      refine wG rfl rfl (g_lt rfl (.mk rfl rfl) (.mk rfl rfl) (decide_eq_true (by omega))) ?_
      refine WL.nil ?_
      (refine hK _ _ ?_; clear hK)
      refine WC.cond_true (.mk rfl rfl) ?_
      refine WC.skip ?_
      (refine hK _ _ ?_; clear hK)
      refine WC.seq fun K hK => ?_
      refine WC.block ?_
      refine WC.seq fun K hK => ?_
      refine WC.region rfl ?_
      refine wG rfl rfl (g_move rfl (.mk (v := .slice _ _ _) rfl rfl)) ?_
      refine wG rfl rfl (g_move rfl (.mk (v := .int _ _) rfl rfl)) ?_
      refine wG rfl rfl (g_indexAddr (sz := 1) rfl (.mk rfl rfl) (.mk rfl rfl) rfl rfl rfl (by omega) (fun _ _ => sl_some hsb (by omega))) ?_
      refine wG rfl rfl (g_load rfl (.mk rfl rfl) rfl (rd_sl hsb hgv)) ?_
      refine WL.nil ?_
      (refine hK _ _ ?_; clear hK)
      refine WC.cond_true (.mk rfl rfl) ?_
      refine WC.region rfl ?_
      refine wG rfl rfl (g_move rfl (.mk (v := .int _ _) rfl rfl)) ?_
      refine wG rfl rfl (g_add rfl (.mk rfl rfl) (.mk rfl rfl) (IntWalk.i64_in _ (by omega))) ?_
      refine wG rfl rfl (g_assign rfl (.mk (v := .int _ _) rfl rfl)) ?_
      refine WL.nil ?_
      (refine hK _ _ ?_; clear hK)
      refine WC.region rfl ?_
      refine wG rfl rfl (g_move rfl (.mk (v := .int _ _) rfl rfl)) ?_
      refine wG rfl rfl (g_add rfl (.mk rfl rfl) (.mk rfl rfl) (IntWalk.i64_in _ (by omega))) ?_
      refine wG rfl rfl (g_assign rfl (.mk (v := .int _ _) rfl rfl)) ?_
      refine WL.nil ?_
      exact ⟨i + 1, by rw [hst]; exact (by repeat (first | exact trivial | refine ⟨rfl, ?_⟩)), .refl _, by omega, by omega⟩
    | false =>
      rw [hbi] at hgv hst
      replace hst : cnt bs (i + 1) = cnt bs i := hst
      refine WC.seq fun K hK => ?_
      refine WC.seq fun K hK => ?_
      refine WC.region rfl ?_
      refine wG rfl rfl (g_move rfl (.mk (v := .int _ _) rfl rfl)) ?_
      refine wG rfl rfl (g_move rfl (.mk (v := .slice _ _ _) rfl rfl)) ?_
      refine wG rfl rfl (g_len rfl (.mk rfl rfl) rfl) ?_
      refine wG rfl rfl (g_lt rfl (.mk rfl rfl) (.mk rfl rfl) (decide_eq_true (by omega))) ?_
      refine WL.nil ?_
      (refine hK _ _ ?_; clear hK)
      refine WC.cond_true (.mk rfl rfl) ?_
      refine WC.skip ?_
      (refine hK _ _ ?_; clear hK)
      refine WC.seq fun K hK => ?_
      refine WC.block ?_
      refine WC.seq fun K hK => ?_
      refine WC.region rfl ?_
      refine wG rfl rfl (g_move rfl (.mk (v := .slice _ _ _) rfl rfl)) ?_
      refine wG rfl rfl (g_move rfl (.mk (v := .int _ _) rfl rfl)) ?_
      refine wG rfl rfl (g_indexAddr (sz := 1) rfl (.mk rfl rfl) (.mk rfl rfl) rfl rfl rfl (by omega) (fun _ _ => sl_some hsb (by omega))) ?_
      refine wG rfl rfl (g_load rfl (.mk rfl rfl) rfl (rd_sl hsb hgv)) ?_
      refine WL.nil ?_
      (refine hK _ _ ?_; clear hK)
      refine WC.cond_false (.mk rfl rfl) ?_
      refine WC.skip ?_
      (refine hK _ _ ?_; clear hK)
      refine WC.region rfl ?_
      refine wG rfl rfl (g_move rfl (.mk (v := .int _ _) rfl rfl)) ?_
      refine wG rfl rfl (g_add rfl (.mk rfl rfl) (.mk rfl rfl) (IntWalk.i64_in _ (by omega))) ?_
      refine wG rfl rfl (g_assign rfl (.mk (v := .int _ _) rfl rfl)) ?_
      refine WL.nil ?_
      exact ⟨i + 1, by rw [hst]; exact (by repeat (first | exact trivial | refine ⟨rfl, ?_⟩)), .refl _, by omega, by omega⟩
  · obtain rfl : i = bs.length := by omega
    refine WC.seq fun K hK => ?_
    refine WC.seq fun K hK => ?_
    refine WC.region rfl ?_
    refine wG rfl rfl (g_move rfl (.mk (v := .int _ _) rfl rfl)) ?_
    refine wG rfl rfl (g_move rfl (.mk (v := .slice _ _ _) rfl rfl)) ?_
    refine wG rfl rfl (g_len rfl (.mk rfl rfl) rfl) ?_
    refine wG rfl rfl (g_lt rfl (.mk rfl rfl) (.mk rfl rfl) (decide_eq_false (by omega))) ?_
    refine WL.nil ?_
    (refine hK _ _ ?_; clear hK)
    refine WC.cond_false (.mk rfl rfl) ?_
    refine WC.exit ?_
    (clear hK; refine hK _ _ ?_; clear hK)
    refine WC.seq fun K hK => ?_
    refine WC.region rfl ?_
    refine wG rfl rfl (g_move rfl (.mk (v := .int _ _) rfl rfl)) ?_
    refine wG rfl rfl (g_assign rfl (.mk (v := .int _ _) rfl rfl)) ?_
    refine WL.nil ?_
    (refine hK _ _ ?_; clear hK)
    refine WC.ret ?_
    exact fun w' hw' => ⟨rfl, hw'.1⟩
def mksP (m : Nat) (l : List G) (i : Nat) : List Bool := (List.range m).map fun q => (List.range i).any fun j => decide ((nth l j).val < 240 ∧ (nth l j).val % m = q)
end Go.Proofs.Ytnkbnponpknokaa
namespace Go.Proofs.Ytnkbnponpknokaa
set_option maxRecDepth 20000
open Go.RowKit
attribute [local irreducible] Calls
def locV (n : Nat) (s0 s1 s2 : Blk) : Int × Int :=
  if s0 = 0 ∧ s1 = 0 ∧ s2 = 0 then (0, 9)
  else if s1 = 0 ∧ s2 = 0 then (n, 0)
  else if s0 = 0 ∧ s2 = 0 then ((n + 1 : Nat), 0)
  else if s0 = 0 ∧ s1 = 0 then ((n + 2 : Nat), 0)
  else if s0 = 0 then (0, 12)
  else match fnd (fun i => decide (s1 = gpow 2 i * s0 ∧ s2 = gpow 2 (2 * i) * s0)) n with
    | some i => (i, 0)
    | none => (0, 12)
end Go.Proofs.Ytnkbnponpknokaa
namespace Go.Proofs.Ytnkbnponpknokaa
set_option maxRecDepth 20000
open Go.RowKit
def Err1 (n : Nat) (s : Nat → Blk) (k : Nat) : Prop := ∃ e : Blk, e ≠ 0 ∧ ∀ q, q < 3 → s q = col n q k * e
theorem other {n a b : Nat} (h1 : 1 ≤ n) (_ha : a < n + 3) (_hb : b < n + 3) : ∃ c, c < n + 3 ∧ a ≠ c ∧ b ≠ c := by
  by_cases h0 : a ≠ 0 ∧ b ≠ 0
  · exact ⟨0, by omega, h0.1, h0.2⟩
  · by_cases h2 : a ≠ 1 ∧ b ≠ 1
    · exact ⟨1, by omega, h2.1, h2.2⟩
    · exact ⟨2, by omega, by omega, by omega⟩
def oneB (m i : Nat) : List Bool := (List.replicate m false).set i true
end Go.Proofs.Ytnkbnponpknokaa
namespace Go.Proofs.Ytnkbnponpknokaa
set_option maxRecDepth 20000
open Go.RowKit
set_option maxHeartbeats 1000000 in
theorem rfused_any (v1 v2 : Value) (dst src : List G) (c : G) (w : World) (hlen : dst.length = src.length) (hsz : dst.length ≤ 1000000) (h1 : Sl w 1 v1 dst.length (bvs dst)) (h2 : Sl w 1 v2 src.length (bvs src)) :
    Calls Try.prog 108 #[v1, v2, bv c] w fun e w' => ∃ v, e = .returned v ∧
      w'.ownsRow w.heap.size 5 1 v dst.length (bvs (gfused dst src c)) ∧ Below w.heap.size w w' := by
  obtain ⟨A1, c1, rfl, hc1, hm1, h1⟩ := h1.open_
  obtain ⟨A2, c2, rfl, hc2, hm2, h2⟩ := h2.open_
  obtain ⟨n, hn⟩ : ∃ n, n = dst.length := ⟨_, rfl⟩
  rw [← hlen, ← hn] at h2
  rw [← hn] at h1
  have H : dst.length = n ∧ src.length = n := ⟨hn.symm, by omega⟩
  rw [← hlen, ← hn]
  clear hlen
  have HL := Lib.hid H
  rw [← hn] at hsz
  clear hn H
  have HF : Hid ((gfused dst src c).length = n) := by show _ = _; rw [gfused_length _ _ _ (by rw [HL.out.1, HL.out.2]), HL.out.1]
  go_enter Try.func108, Try.ntmps108
  go_wp2
  go_loopw [7, 8] (fun v i wr => ∃ k : Nat, k ≤ n ∧ i = iv k ∧ wr.ownsRow w.heap.size 5 1 v k (bvs ((gfused dst src c).take k)) ∧ Below w.heap.size w wr) (fun _ i _ => n - (intOf i).toNat)
  case atStart => exact ⟨0, by omega, rfl, World.ownsRow_nil _ _ _ _, Below.refl _ _⟩
  case round =>
    obtain ⟨k, hk, rfl, hown1, hbel⟩ := hrel
    by_cases hlt : k < n
    · obtain ⟨ad1, u1, rfl, hu1, hl1, hx1⟩ := h1.at_ hlt
      obtain ⟨ad2, u2, rfl, hu2, hl2, hx2⟩ := h2.at_ hlt
      have hd : k < dst.length := by rw [HL.out.1]; exact hlt
      have hs : k < src.length := by rw [HL.out.2]; exact hlt
      obtain rfl : bv dst[k] = u1 := by simpa [bvs, List.getElem?_map, List.getElem?_eq_getElem hd] using hu1
      obtain rfl : bv src[k] = u2 := by simpa [bvs, List.getElem?_map, List.getElem?_eq_getElem hs] using hu2
      have hy1 := (hbel.cell (by rw [addBlock]; exact hl1)).trans hx1
      have hy2 := (hbel.cell (by rw [addBlock]; exact hl2)).trans hx2
      have exor := G.add_val dst[k] (c * src[k])
      have HT := Lib.hid (gfused_take dst src c k hd hs)
      clear hx1 hx2 h1 h2 hu1 hu2
      go_wp2_with (fail)
      have hlt2 : ad1.block < wr.heap.size ∧ ad2.block < wr.heap.size := ⟨Nat.lt_of_lt_of_le hl1 hbel.size, Nat.lt_of_lt_of_le hl2 hbel.size⟩
      go_region_held3 (fun W => W.cell? (ad1.add k) = some (bv dst[k]) ∧ W.cell? (ad2.add k) = some (bv src[k]))
        (first | exact ⟨hy1, hy2⟩ | exact ⟨(World.cell?_alloc_lt _ _ _ (by simp [addBlock]; omega)).trans hy1, (World.cell?_alloc_lt _ _ _ (by simp [addBlock]; omega)).trans hy2⟩ | exact ⟨(hb2.cell (by rw [addBlock]; exact hl1)).trans ((World.cell?_alloc_lt _ _ _ (by simp [addBlock]; omega)).trans hy1), (hb2.cell (by rw [addBlock]; exact hl2)).trans ((World.cell?_alloc_lt _ _ _ (by simp [addBlock]; omega)).trans hy2)⟩)
        (first
          | (go_at_call 77; refine (rmul_any _ _ _).mono ?_; rintro e w' ⟨rfl, rfl⟩)
          | (refine step_append elB rfl _ _ rfl w.heap.size _ k _ rfl ((hown1.drew).alloc _) _ 1 _ rfl (Sl.lit _ _ _ 1 1 rfl (by unfold maxLen; omega)) (one_cell_bv _) (by unfold maxLen; omega) (by omega) (by have := hbel.size; simp; omega) ?_; intro v' w2 hown2 _ _ hb2))
      go_wp2_with (fail)
      have hbw2 : Below w.heap.size w w2 := (hbel.drew.alloc hbel.size _).trans hb2
      have hown3 : w2.ownsRow w.heap.size 5 1 v' (k + 1) (bvs ((gfused dst src c).take (k + 1))) := by rw [HT.out, bvs_append]; exact hown2
      clear hown2 hb2 hown1
      go_roundw
      case rel => exact ⟨k + 1, by omega, by go_num, hown3, hbw2⟩
      case measure => simp [intOf]; omega
    · obtain rfl : k = n := by omega
      have hfin := hown1
      rw [List.take_of_length_le (by rw [HF.out]; omega)] at hfin
      have HO := Lib.hid hfin
      clear hfin hown1
      go_wp2_with (fail)
      go_ret
      exact ⟨_, rfl, HO.out, hbel⟩
end Go.Proofs.Ytnkbnponpknokaa
