/- Inverse, walked. No condition. -/
import Derived.Test.YtlkemgefioiffaaMat5
namespace Go.Proofs.Ytlkemgefioiffaa
open Go.RowKit
attribute [local irreducible] Calls
theorem MatAt.drop {w : World} {A : Option Addr} {n c l : Nat} {rs : List Row} (h : MatAt w (.slice A n c) rs) (hn : rs.length = n) (hl : l ≤ n) : MatAt w (.slice (subA A c l 1) (n - l) (c - l)) (rs.drop l) := by
  subst hn
  have := h.1.sub hl (Nat.le_refl _)
  rw [Nat.mul_one, Nat.mul_one, ← List.map_drop, List.take_of_length_le (by simp)] at this
  exact ⟨by rw [List.length_drop]; exact this, fun r hr => h.2 r (List.mem_of_mem_drop hr)⟩
theorem MatAt.of_rowsN {w0 w : World} {L : List Asrt} {A : Option Addr} {n c : Nat} {rs : List Row} (hw : H w0 L w) (h0 : vec A n c 28 1 (rs.map Row.v) ∈ L) (h : rowsA rs ∈ L) (hn : rs.length = n) : MatAt w (.slice A n c) rs := by
  subst hn; exact MatAt.of_rowsA hw h0 h
theorem MatAt.tail {w0 w : World} {L : List Asrt} {A : Option Addr} {n c l : Nat} {rs : List Row} (hw : H w0 L w) (h0 : vec A n c 28 1 (rs.map Row.v) ∈ L) (h : rowsA rs ∈ L) (hn : rs.length = n) (hl : l ≤ n) : MatAt w (.slice (subA A c l 1) (n - l) (c - l)) (rs.drop l) :=
  (MatAt.of_rowsN hw h0 h hn).drop hn hl
theorem nth_drop {α : Type} [Inhabited α] (l : List α) (c k : Nat) : nth (l.drop c) k = nth l (c + k) := by unfold nth; simp [List.getD_eq_getElem?_getD, List.getElem?_drop]
theorem pvt_rows {rs : List Row} {a : List (List G)} {n c : Nat} (h : els rs = a) (hl : rs.length = n) (hc : c < n) : fnd (fun k => nz (nth (nth (rs.drop c) k).l c)) (rs.drop c).length = pvt a n c := by
  unfold pvt
  rw [List.length_drop, hl]
  have key : ∀ m, m ≤ n - c → fnd (fun k => nz (nth (nth (rs.drop c) k).l c)) m = fnd (fun k => nz (el a (c + k) c)) m := fun m => by
    induction m with
    | zero => intro _; rfl
    | succ m ih =>
      intro hm
      unfold fnd
      rw [ih (by omega)]
      have e : nth (nth (rs.drop c) m).l c = el a (c + m) c := by rw [nth_drop, el_row (by omega), h]
      rw [e]
  exact key _ (Nat.le_refl _)
theorem rowsv_copy {rs : List Row} {k : Nat} {l : List G} (hk : k < rs.length) (hl : l.length ≤ (nth rs k).l.length) : (rs.set k ((nth rs k).copy l)).map Row.v = rs.map Row.v := by
  rw [List.map_set, Row.copy_v _ hl]
  refine List.ext_getElem? fun j => ?_
  by_cases e : j = k
  · subst e; rw [List.getElem?_set_self (by simpa using hk), List.getElem?_map, nth_get hk]; rfl
  · rw [List.getElem?_set_ne (fun h => e h.symm)]
theorem Sl.drop_row {w : World} {A : Option Addr} {m c n : Nat} {l : List G} (h : Sl w 1 (.slice A m c) m (bvs l)) (hl : l.length = m) (hn : n ≤ m) : Sl w 1 (.slice (subA A c n 1) (m - n) (c - n)) (l.drop n).length (bvs (l.drop n)) := by
  have := h.sub hn (Nat.le_refl _)
  have e : ((bvs l).drop (n * 1)).take ((m - n) * 1) = bvs (l.drop n) := by
    unfold bvs; rw [Nat.mul_one, Nat.mul_one, ← List.map_drop, List.take_of_length_le (by simp; omega)]
  rw [e] at this
  rw [List.length_drop, hl]; exact this
theorem take_succ_nth {α : Type} [Inhabited α] {l : List α} {k : Nat} (h : k < l.length) : l.take (k + 1) = l.take k ++ [nth l k] := by rw [List.take_add_one, nth_get h]; rfl
theorem perm3 {a b c : Asrt} : [a, b, c].Perm [b, c, a] := (List.Perm.swap _ _ _).trans ((List.Perm.swap _ _ _).cons _)
def swpR (rs : List Row) (c q : Nat) : List Row := (rs.set c (nth rs q)).set q (nth rs c)
theorem swpR_perm {rs : List Row} {c q : Nat} (hc : c < rs.length) (hq : q < rs.length) : rs.Perm (swpR rs c q) := by
  unfold swpR
  rw [nth_eq' hc, nth_eq' hq]
  exact (List.set_set_perm hc hq).symm
theorem swpR_v {rs : List Row} {c q : Nat} : (swpR rs c q).map Row.v = ((rs.map Row.v).set c (nth rs q).v).set q (nth rs c).v := by
  unfold swpR; rw [List.map_set, List.map_set]
theorem swpR_els {rs : List Row} {c q : Nat} (hc : c < rs.length) (hq : q < rs.length) : els (swpR rs c q) = swp (els rs) c q := by
  unfold swpR swp
  rw [els_set, els_set, els_at hc, els_at hq]
theorem swpR_len {rs : List Row} {c q : Nat} : (swpR rs c q).length = rs.length := by simp [swpR]
theorem Imp.rowsP {rs rs' : List Row} {L L' : List Asrt} (h : rs.Perm rs') (hs : Swap (rowsA rs) (rowsA rs') L L') : Imp L L' := by
  obtain ⟨L1, p1, p2⟩ := hs.perms
  exact (Imp.perm p1).trans ((Imp.rows_perm h L1).trans (Imp.perm p2.symm))
theorem augF {m : List (List G)} {n i : Nat} (hi : i < n) (hl : (nth m i).length = n) : (nth m i ++ (zrow (2 * n)).drop (nth m i).length).set (n + i) 1 = nth m i ++ (List.range n).map fun j => dlt i j := by
  have e1 : (zrow (2 * n)).drop (nth m i).length = zrow n := by unfold zrow; rw [List.drop_replicate, hl]; congr 1; omega
  rw [e1, List.set_append_right _ _ (by omega), hl, Nat.add_sub_cancel_left, unit_row hi]
theorem zr_own {b n : Nat} : vec (some ⟨b, 0, none⟩) n n 5 1 (madeCells (Value.int .u8 0).cells (n * 1)).toList = vec (some ⟨b, 0, none⟩) n n 5 1 (bvs (zrow n)) := by rw [madeU]; rfl
theorem inv_c (a : G) (h : a ≠ 0) (w : World) : Calls Try.prog 35 #[bv a] w fun e w' => e = .returned (.tuple #[bv (ginv a), iv 0]) ∧ w' = w := (inv_any a h w).mono fun _ _ ⟨h1, h2⟩ => ⟨h1, h2.symm⟩
set_option maxRecDepth 20000 in
set_option maxHeartbeats 4000000 in
theorem inverse_c (va : Value) (ra : List Row) (w : World) (ha : MatAt w va ra) (hg : Good (els ra)) (hsq : (nth ra 0).l.length = ra.length) :
    Calls Try.prog 13 #[va] w fun e w' => ∃ v' M, e = .returned v' ∧ H w M w' ∧ ((invM (els ra) = none ∧ v' = .tuple #[.slice none 0 0, iv 3]) ∨ ∃ A cc rs, v' = .tuple #[.slice A rs.length cc, iv 0] ∧ M = matM A cc rs ∧ invM (els ra) = some (els rs) ∧ rs.length = ra.length) := by
  obtain ⟨A, c, rfl, hcc, hm, hs⟩ := ha.1.open_
  have hval := fun w' hb => valid_e _ ra w' (ha.below (w' := w') hb)
  rw [goodB_iff.2 hg] at hval
  obtain ⟨g1, g2, g3, g4⟩ := hg.parts
  obtain ⟨n, hn⟩ : ∃ n, n = ra.length := ⟨_, rfl⟩
  obtain ⟨m, hmm⟩ : ∃ m, m = els ra := ⟨_, rfl⟩
  have hrow : ∀ i, i < n → (nth ra i).l.length = n := fun i hi => by rw [hg.row (by omega), hsq, hn]
  have hshp : Shp m n n := ⟨by rw [hmm, els_len, hn], fun i hi => by rw [hmm, els_at (by omega), hrow i hi]⟩
  have hinv : invM (els ra) = (gjr n n (aug m n)).map fun a => a.map (List.drop n) := by unfold invM; rw [← hmm, hshp.1]
  have hmul : IntKind.i64.wrap (2 * (ra.length : Int)) = ((2 * ra.length : Nat) : Int) := by rw [IntWalk.i64_in _ (by omega)]; omega
  refine calls_wc (args := [.slice A ra.length c]) [2, 3] [] Try.func13 rfl Try.ntmps13 rfl rfl rfl rfl (H.refl w) ?_
  (refine WC.seq ?_; intro K hK)
  refine WC.region rfl ?_
  refine WL.want rfl (WL1.give rfl (g_assign rfl (.mk (v := .slice _ _ _) rfl rfl)) ?_)
  refine WL.want rfl (WL1.give rfl (g_assign rfl (.mk (v := .int _ _) rfl rfl)) ?_)
  refine WL.nil ?_
  (refine hK _ _ ?_; clear hK)
  (refine WC.seq ?_; intro K hK)
  (refine WC.seq ?_; intro K hK)
  refine WC.region rfl ?_
  refine WL.want rfl (WL1.give rfl (g_move rfl (.mk (v := .slice _ _ _) rfl rfl)) ?_)
  refine WL.want rfl (WL1.callP rfl rfl rfl (.cons (.mk (v := .slice _ _ _) rfl rfl) .nil) (fun w hw => hval w hw.1) ?_)
  refine WL.want rfl (WL1.give rfl (g_notT rfl (.mk rfl rfl)) ?_)
  refine WL.want rfl (WL1.give rfl (g_move rfl (.mk (v := .bool _) rfl rfl)) ?_)
  refine WL.wantG rfl rfl rfl rfl (WL1.give rfl (g_move rfl (.mk (v := .slice _ _ _) rfl rfl)) ?_)
  refine WL.wantG rfl rfl rfl rfl (WL1.give rfl (g_len rfl (.mk rfl rfl) rfl) ?_)
  refine WL.wantG rfl rfl rfl rfl (WL1.give rfl (g_move rfl (.mk (v := .slice _ _ _) rfl rfl)) ?_)
  refine WL.wantG rfl rfl rfl rfl (WL1.give rfl (g_indexAddr (sz := 1) rfl (.mk rfl rfl) (.mk rfl rfl) rfl rfl (show _ = ((0 : Nat) : Int) from rfl) (by omega) (fun _ _ => sl_some hs (by omega))) ?_)
  refine WL.wantG rfl rfl rfl rfl (WL1.give rfl (g_load rfl (.mk rfl rfl) rfl (rd_sl hs (get1 (by omega)))) ?_)
  refine WL.wantG rfl rfl rfl rfl (WL1.give rfl (g_len rfl (.mk rfl rfl) rfl) ?_)
  refine WL.wantG rfl rfl rfl rfl (WL1.give rfl (g_ne rfl (.mk rfl rfl) (.mk rfl rfl) (decide_eq_false (by omega))) ?_)
  refine WL.want rfl (WL1.give rfl (g_pickF rfl (.mk rfl rfl) (.mk (v := .bool _) rfl rfl)) ?_)
  refine WL.nil ?_
  (refine hK _ _ ?_; clear hK)
  refine WC.cond_false (.mk rfl rfl) ?_
  refine WC.skip ?_
  (refine hK _ _ ?_; clear hK)
  (refine WC.seq ?_; intro K hK)
  refine WC.region rfl ?_
  refine WL.want rfl (WL1.give rfl (g_move rfl (.mk (v := .slice _ _ _) rfl rfl)) ?_)
  refine WL.want rfl (WL1.give rfl (g_len rfl (.mk rfl rfl) rfl) ?_)
  refine WL.want rfl (WL1.give rfl (g_assign rfl (.mk (v := .int _ _) rfl rfl)) ?_)
  refine WL.nil ?_
  (refine hK _ _ ?_; clear hK)
  (refine WC.seq ?_; intro K hK)
  refine WC.region rfl ?_
  refine WL.want rfl (WL1.give rfl (g_move rfl (.mk (v := .int _ _) rfl rfl)) ?_)
  refine WL.want rfl (WL1.give rfl (g_move rfl (.mk (v := .int _ _) rfl rfl)) ?_)
  refine WL.want rfl (WL1.give rfl (g_mul rfl (.mk rfl rfl) (.mk rfl rfl) hmul) ?_)
  (refine WL.want rfl (WL1.callN rfl rfl rfl (.cons (.mk (v := .int _ _) rfl rfl) (.cons (.mk (v := .int _ _) rfl rfl) .nil)) (fun w hw => blank_n ra.length (2 * ra.length) w (by omega) (by omega)) ?_); rintro _ _ ⟨Ao, co, r0, rfl, rfl, hre0, hrl0⟩)
  refine WL.want rfl (WL1.give rfl (g_assign rfl (.mk (v := .slice _ _ _) rfl rfl)) ?_)
  refine WL.nil ?_
  (refine hK _ _ ?_; clear hK)
  (refine WC.seq ?_; intro K hK)
  (refine WC.seq ?_; intro K hK)
  refine WC.region rfl ?_
  refine WL.want rfl (WL1.give rfl (g_move rfl (.mk (v := .slice _ _ _) rfl rfl)) ?_)
  refine WL.want rfl (WL1.give rfl (g_len rfl (.mk rfl rfl) rfl) ?_)
  refine WL.want rfl (WL1.give rfl (g_move rfl (.mk (v := .int _ _) rfl rfl)) ?_)
  refine WL.nil ?_
  (refine hK _ _ ?_; clear hK)
  refine WC.block ?_
  rw [← hn] at hre0 hrl0
  refine WC.loopI2 (36028762659225792) (fun (i : Nat) (rs : List Row) => [(35, iv i)]) (fun i rs => [vec Ao r0.length co 28 1 (rs.map Row.v), rowsA rs]) (fun i rs => i ≤ n ∧ rs.length = n ∧ els rs = prg n (fun i => nth m i ++ (List.range n).map fun j => dlt i j) (zrow (2 * n)) (zrow (2 * n)) i) (fun i _ => n - i) 0 r0 ⟨rfl, trivial⟩ (by rw [List.append_nil]; exact .refl _) ⟨by omega, hrl0, by rw [hre0, prg_zero]⟩ ?_
  rintro i rs U ⟨hi, hrl, hre⟩
  by_cases hlt : i < n
  · have hri : (nth rs i).l = zrow (2 * n) := by rw [els_row hre (by omega), prg_at hlt]
    have hrl2 : (nth rs i).l.length = 2 * n := by rw [hri, zrow_len]
    have hral := hrow i hlt
    have hmi : (nth ra i).l = nth m i := by rw [hmm, els_at (by omega)]
    have hcl : (nth ra i).l.length ≤ (nth rs i).l.length := by omega
    refine WC.learn (fun w hw => rowA_some (k := i) (.tail _ (.head _)) (by omega) (by omega) w hw) fun hAs => ?_
    obtain ⟨r1, hr1⟩ : ∃ r1, r1 = (nth rs i).copy (nth ra i).l := ⟨_, rfl⟩
    have hr1A : r1.A = (nth rs i).A := by rw [hr1]; rfl
    have hr1l : r1.l.length = 2 * n := by rw [hr1, Row.copy, List.length_append, List.length_drop]; omega
    have hn1 : nth (rs.set i r1) i = r1 := by rw [nth_put (by omega), if_pos rfl]
    have hrow1 := ha.row (k := i) (by omega)
    (refine WC.seq ?_; intro K hK)
    refine WC.region rfl ?_
    refine WL.want rfl (WL1.give rfl (g_lt rfl (.mk rfl rfl) (.mk rfl rfl) (decide_eq_true (by omega))) ?_)
    refine WL.nil ?_
    (refine hK _ _ ?_; clear hK)
    (refine WC.seq ?_; intro K hK)
    refine WC.cond_true (.mk rfl rfl) ?_
    refine WC.skip ?_
    (refine hK _ _ ?_; clear hK)
    (refine WC.seq ?_; intro K hK)
    refine WC.block ?_
    (refine WC.seq ?_; intro K hK)
    refine WC.region rfl ?_
    refine WL.want rfl (WL1.give rfl (g_move rfl (.mk (v := .int _ _) rfl rfl)) ?_)
    refine WL.want rfl (WL1.give rfl (g_indexAddr (sz := 1) rfl (.mk rfl rfl) (.mk rfl rfl) rfl rfl rfl (by omega) (fun _ _ => sl_some hs (by omega))) ?_)
    refine WL.want rfl (WL1.give rfl (g_load rfl (.mk rfl rfl) rfl (rd_sl hs (get1 (by omega)))) ?_)
    refine WL.want rfl (WL1.give rfl (g_assign rfl (.mk (v := .int _ _) rfl rfl)) ?_)
    refine WL.want rfl (WL1.give rfl (g_assign rfl (.mk (v := .slice _ _ _) rfl rfl)) ?_)
    refine WL.nil ?_
    (refine hK _ _ ?_; clear hK)
    (refine WC.seq ?_; intro K hK)
    refine WC.region rfl ?_
    refine WL.want rfl (WL1.give rfl (g_move rfl (.mk (v := .slice _ _ _) rfl rfl)) ?_)
    refine WL.want rfl (WL1.give rfl (g_move rfl (.mk (v := .int _ _) rfl rfl)) ?_)
    refine WL.want rfl (WL1.give rfl (g_indexAddr (sz := 1) rfl (.mk rfl rfl) (.mk rfl rfl) rfl rfl rfl (by omega) (fun w hw => vec_some hw (.head _) (by omega))) ?_)
    refine WL.want rfl (WL1.give rfl (g_load rfl (.mk rfl rfl) rfl (rd_vec (.head _) (get1 (by omega)))) ?_)
    refine WL.want rfl (WL1.give rfl (g_move rfl (.mk (v := .slice _ _ _) rfl rfl)) ?_)
    refine WL.want rfl (WL1.copyRow (l := (nth ra i).l) rfl (by kernel_rfl) rfl rfl (.mk rfl rfl) rfl rfl (.mk rfl rfl) (by omega) (by omega) hcl (fun w hw => Sl.below hrow1 hw.1) (.tail .head) ?_)
    refine WL.nil ?_
    (refine hK _ _ ?_; clear hK)
    refine WC.region rfl ?_
    refine WL.want rfl (WL1.give rfl (g_move rfl (.mk (v := .slice _ _ _) rfl rfl)) ?_)
    refine WL.want rfl (WL1.give rfl (g_move rfl (.mk (v := .int _ _) rfl rfl)) ?_)
    refine WL.want rfl (WL1.give rfl (g_indexAddr (sz := 1) rfl (.mk rfl rfl) (.mk rfl rfl) rfl rfl rfl (by omega) (fun w hw => vec_some hw (.head _) (by omega))) ?_)
    refine WL.want rfl (WL1.give rfl (g_load rfl (.mk rfl rfl) rfl (rd_vec (.head _) (get1 (by omega)))) ?_)
    refine WL.want rfl (WL1.give rfl (g_move rfl (.mk (v := .int _ _) rfl rfl)) ?_)
    refine WL.want rfl (WL1.give rfl (g_move rfl (.mk (v := .int _ _) rfl rfl)) ?_)
    refine WL.want rfl (WL1.give rfl (g_add rfl (.mk rfl rfl) (.mk rfl rfl) (IntWalk.i64_in _ (by omega))) ?_)
    refine WL.want rfl (WL1.give rfl (g_indexAddr (sz := 1) rfl (.mk rfl rfl) (.mk rfl rfl) rfl rfl rfl (by omega) (fun _ _ => hAs)) ?_)
    refine WL.want rfl (WL1.storeRow (rs := rs.set i ((nth rs i).copy (nth ra i).l)) (k := i) (g := 1) (j := ra.length + i) rfl rfl (.mk rfl rfl) (by rw [← hr1, hn1, hr1A]) rfl (.mk rfl rfl) rfl rfl (by rw [List.length_set]; omega) (by rw [← hr1, hn1]; omega) (.tail .head) ?_)
    refine WL.nil ?_
    (refine hK _ _ ?_; clear hK)
    refine WC.region rfl ?_
    refine WL.want rfl (WL1.give rfl (g_add rfl (.mk rfl rfl) (.mk rfl rfl) (IntWalk.i64_in _ (by omega))) ?_)
    refine WL.want rfl (WL1.give rfl (g_move rfl (.mk (v := .int _ _) rfl rfl)) ?_)
    refine WL.nil ?_
    refine ⟨i + 1, (rs.set i ((nth rs i).copy (nth ra i).l)).set i ((nth (rs.set i ((nth rs i).copy (nth ra i).l)) i).put (ra.length + i) 1), (by repeat (first | with_reducible exact Out.refl _ _ | refine Out.set rfl ?_ | refine Out.put rfl ?_ | refine Out.sets rfl ?_ | refine Out.hav rfl ?_ | exact Out.refl _ _)), ⟨rfl, trivial⟩, ?_, ⟨by omega, by rw [List.length_set, List.length_set, hrl], ?_⟩, by omega⟩
    · rw [rowsv_put (by rw [List.length_set]; omega), rowsv_copy (by omega) hcl]; exact .refl _
    · rw [els_set, els_set, List.set_set, ← hr1, hn1, hre]
      have e1 : (r1.put (ra.length + i) 1).l = nth m i ++ (List.range n).map fun j => dlt i j := by
        rw [hr1]
        show ((nth ra i).l ++ (nth rs i).l.drop (nth ra i).l.length).set (ra.length + i) 1 = _
        rw [hri, hmi, ← hn]
        exact augF hlt (by rw [← hmi]; exact hral)
      rw [e1]
      exact (prg_set hlt).trans prg_next
  · obtain rfl : i = n := by omega
    have hau : els rs = aug m i := by rw [hre, prg_all]; rfl
    (refine WC.seq ?_; intro K hK)
    refine WC.region rfl ?_
    refine WL.want rfl (WL1.give rfl (g_lt rfl (.mk rfl rfl) (.mk rfl rfl) (decide_eq_false (by omega))) ?_)
    refine WL.nil ?_
    (refine hK _ _ ?_; clear hK)
    (refine WC.seq ?_; intro K hK)
    refine WC.cond_false (.mk rfl rfl) ?_
    refine WC.exit ?_
    (clear hK; refine hK _ _ ?_; clear hK)
    (refine WC.seq ?_; intro K hK)
    (refine WC.seq ?_; intro K hK)
    refine WC.region rfl ?_
    refine WL.want rfl (WL1.give rfl (g_move rfl (.mk (v := .int _ _) rfl rfl)) ?_)
    refine WL.want rfl (WL1.give rfl (g_move rfl (.mk (v := .int _ _) rfl rfl)) ?_)
    refine WL.nil ?_
    (refine hK _ _ ?_; clear hK)
    refine WC.block ?_
    refine WC.loopI3 (5575186299632655785383929496104496338575116) (fun (c : Nat) (a : List (List G)) (rs : List Row) => [(56, iv c)]) (fun c a rs => [vec Ao r0.length co 28 1 (rs.map Row.v), rowsA rs]) (fun c a rs => c ≤ i ∧ rs.length = i ∧ els rs = a ∧ Inv m a i c ∧ gjr i i (aug m i) = gjr i (i - c) a) (fun c _ _ => i - c) 0 (aug m i) rs ⟨rfl, trivial⟩ (.refl _) ⟨by omega, hrl, hau, aug_inv hshp, by rw [Nat.sub_zero]⟩ ?_
    clear hre hau
    rintro c a rs U ⟨hc, hrl, hre, hI, hgj⟩
    by_cases hlt : c < i
    · have hrow2 : ∀ q, q < i → (nth rs q).l.length = 2 * i := fun q hq => by rw [els_row hre (by omega)]; exact hI.shp.2 q hq
      have hpv := pvt_rows hre hrl hlt
      have hkk : i - c = (i - (c + 1)) + 1 := by omega
      rw [hkk] at hgj
      simp only [gjr] at hgj
      rw [show i - (i - (c + 1) + 1) = c from by omega] at hgj
      have hidx := fun (v : Value) (b : Nat) (w' : World) h1 h2 h3 => index_rows v (rs.drop c) b c w' h1 h2 h3
      rw [hpv] at hidx
      have hcol : ∀ k, k < (rs.drop c).length → c < (nth (rs.drop c) k).l.length := fun k hk => by rw [nth_drop, hrow2 _ (by rw [List.length_drop] at hk; omega)]; omega
      refine WC.learn (fun w hw => vec_some hw (.head _) (by omega)) fun hAo => ?_
      cases hp : pvt a i c with
      | none =>
        rw [hp] at hgj hidx
        rw [show fz none = -1 from rfl] at hidx
        have hfin : invM (els ra) = none := by rw [hinv, hgj]; rfl
        (refine WC.seq ?_; intro K hK)
        refine WC.region rfl ?_
        refine WL.want rfl (WL1.give rfl (g_lt rfl (.mk rfl rfl) (.mk rfl rfl) (decide_eq_true (by omega))) ?_)
        refine WL.nil ?_
        (refine hK _ _ ?_; clear hK)
        (refine WC.seq ?_; intro K hK)
        refine WC.cond_true (.mk rfl rfl) ?_
        refine WC.skip ?_
        (refine hK _ _ ?_; clear hK)
        (refine WC.seq ?_; intro K hK)
        refine WC.block ?_
        (refine WC.seq ?_; intro K hK)
        refine WC.region rfl ?_
        refine WL.want rfl (WL1.give rfl (g_move rfl (.mk (v := .int _ _) rfl rfl)) ?_)
        refine WL.want rfl (WL1.alloc rfl rfl rfl rfl (fun b8 => ?_))
        refine WL.want rfl (WL1.store1 rfl rfl (.mk rfl rfl) (.mk (v := .int _ _) rfl rfl) rfl rfl (Nat.le_of_ble_eq_true rfl) (.head) ?_)
        refine WL.nil ?_
        (refine hK _ _ ?_; clear hK)
        (refine WC.seq ?_; intro K hK)
        refine WC.region rfl ?_
        refine WL.want rfl (WL1.give rfl (g_move rfl (.mk (v := .slice _ _ _) rfl rfl)) ?_)
        refine WL.want rfl (WL1.give rfl (g_load rfl (.mk rfl rfl) rfl (rd_pt (.head _) rfl)) ?_)
        refine WL.want rfl (WL1.give rfl (g_sliceC (sz := 1) (kh := .i64) (q := 0) rfl (.mk rfl rfl) rfl rfl ⟨(.mk rfl rfl), rfl⟩ rfl (by omega) (fun w hw => Nat.le_trans (by omega) (vec_cap hw (.tail _ (.head _))))) ?_)
        refine WL.want rfl (WL1.give rfl (g_makeFunc rfl (.cons (.mk (v := cellPtr _ _) rfl rfl) .nil)) ?_)
        refine WL.want rfl (WL1.callP rfl rfl rfl (.cons (.mk (v := .slice _ _ _) rfl rfl) (.cons (.mk (v := .func _ _ _) rfl rfl) .nil)) (fun w hw => hidx _ b8 w (MatAt.tail hw (by repeat (first | exact .head _ | apply List.Mem.tail)) (by repeat (first | exact .head _ | apply List.Mem.tail)) (by omega) (by omega)) (cell_pt hw (by repeat (first | exact .head _ | apply List.Mem.tail)) rfl) hcol) ?_)
        refine WL.want rfl (WL1.give rfl (g_assign rfl (.mk (v := .int _ _) rfl rfl)) ?_)
        refine WL.nil ?_
        (refine hK _ _ ?_; clear hK)
        (refine WC.seq ?_; intro K hK)
        (refine WC.seq ?_; intro K hK)
        refine WC.region rfl ?_
        refine WL.want rfl (WL1.give rfl (g_move rfl (.mk (v := .int _ _) rfl rfl)) ?_)
        refine WL.want rfl (WL1.give rfl (g_lt rfl (.mk rfl rfl) (.mk rfl rfl) (decide_eq_true (by omega))) ?_)
        refine WL.nil ?_
        (refine hK _ _ ?_; clear hK)
        refine WC.cond_true (.mk rfl rfl) ?_
        (refine WC.seq ?_; intro K hK)
        refine WC.region rfl ?_
        refine WL.want rfl (WL1.give rfl (g_assign rfl (.mk (v := .slice _ _ _) rfl rfl)) ?_)
        refine WL.want rfl (WL1.give rfl (g_assign rfl (.mk (v := .int _ _) rfl rfl)) ?_)
        refine WL.nil ?_
        (refine hK _ _ ?_; clear hK)
        refine WC.ret ?_
        exact fun w' hw' => ⟨_, _, rfl, hw', .inl ⟨hfin, rfl⟩⟩
      | some q =>
        rw [hp] at hgj hidx
        rw [show fz (some q) = (q : Int) from rfl] at hidx
        obtain ⟨hq, hI2⟩ := stp_inv hI hlt hp
        have hsw := swp_inv hI hlt hq (by omega)
        have hpc : el (swp a c (c + q)) c c ≠ 0 := by
          rw [swp_el hI.shp hlt hq]
          have h3 := nz_t.1 (fnd_some hp).2.1
          by_cases e : c = c + q
          · rw [if_pos e]; rw [← e] at h3; exact h3
          · rw [if_neg e, if_pos rfl]; exact h3
        have hadd : IntKind.i64.wrap ((c : Int) + (q : Int)) = ((c + q : Nat) : Int) := by rw [IntWalk.i64_in _ (by omega)]; omega
        have hmapl : (rs.map Row.v).length = i := by rw [List.length_map, hrl]
        (refine WC.seq ?_; intro K hK)
        refine WC.region rfl ?_
        refine WL.want rfl (WL1.give rfl (g_lt rfl (.mk rfl rfl) (.mk rfl rfl) (decide_eq_true (by omega))) ?_)
        refine WL.nil ?_
        (refine hK _ _ ?_; clear hK)
        (refine WC.seq ?_; intro K hK)
        refine WC.cond_true (.mk rfl rfl) ?_
        refine WC.skip ?_
        (refine hK _ _ ?_; clear hK)
        (refine WC.seq ?_; intro K hK)
        refine WC.block ?_
        (refine WC.seq ?_; intro K hK)
        refine WC.region rfl ?_
        refine WL.want rfl (WL1.give rfl (g_move rfl (.mk (v := .int _ _) rfl rfl)) ?_)
        refine WL.want rfl (WL1.alloc rfl rfl rfl rfl (fun b8 => ?_))
        refine WL.want rfl (WL1.store1 rfl rfl (.mk rfl rfl) (.mk (v := .int _ _) rfl rfl) rfl rfl (Nat.le_of_ble_eq_true rfl) (.head) ?_)
        refine WL.nil ?_
        (refine hK _ _ ?_; clear hK)
        (refine WC.seq ?_; intro K hK)
        refine WC.region rfl ?_
        refine WL.want rfl (WL1.give rfl (g_move rfl (.mk (v := .slice _ _ _) rfl rfl)) ?_)
        refine WL.want rfl (WL1.give rfl (g_load rfl (.mk rfl rfl) rfl (rd_pt (.head _) rfl)) ?_)
        refine WL.want rfl (WL1.give rfl (g_sliceC (sz := 1) (kh := .i64) (q := 0) rfl (.mk rfl rfl) rfl rfl ⟨(.mk rfl rfl), rfl⟩ rfl (by omega) (fun w hw => Nat.le_trans (by omega) (vec_cap hw (.tail _ (.head _))))) ?_)
        refine WL.want rfl (WL1.give rfl (g_makeFunc rfl (.cons (.mk (v := cellPtr _ _) rfl rfl) .nil)) ?_)
        refine WL.want rfl (WL1.callP rfl rfl rfl (.cons (.mk (v := .slice _ _ _) rfl rfl) (.cons (.mk (v := .func _ _ _) rfl rfl) .nil)) (fun w hw => hidx _ b8 w (MatAt.tail hw (by repeat (first | exact .head _ | apply List.Mem.tail)) (by repeat (first | exact .head _ | apply List.Mem.tail)) (by omega) (by omega)) (cell_pt hw (by repeat (first | exact .head _ | apply List.Mem.tail)) rfl) hcol) ?_)
        refine WL.want rfl (WL1.give rfl (g_assign rfl (.mk (v := .int _ _) rfl rfl)) ?_)
        refine WL.nil ?_
        (refine hK _ _ ?_; clear hK)
        (refine WC.seq ?_; intro K hK)
        (refine WC.seq ?_; intro K hK)
        refine WC.region rfl ?_
        refine WL.want rfl (WL1.give rfl (g_move rfl (.mk (v := .int _ _) rfl rfl)) ?_)
        refine WL.want rfl (WL1.give rfl (g_lt rfl (.mk rfl rfl) (.mk rfl rfl) (decide_eq_false (by omega))) ?_)
        refine WL.nil ?_
        (refine hK _ _ ?_; clear hK)
        refine WC.cond_false (.mk rfl rfl) ?_
        refine WC.skip ?_
        (refine hK _ _ ?_; clear hK)
        refine WC.seqP (19342739326857771957092352) (fun _ : List Row => []) (fun r1 => [vec Ao r0.length co 28 1 (r1.map Row.v), rowsA r1, pt b8 3 [iv c]]) (fun r1 => r1.length = i ∧ els r1 = swp a c (c + q)) ?_ (fun r1 V hr1 => ?_)
        refine WC.held [pt b8 3 [iv c], rowsA rs] rfl (by kernel_rfl) ?_
        refine WH.take 0 rfl (by decide +kernel) (by decide +kernel) (by decide +kernel) rfl rfl (Imp.sub (by first | ((repeat (first | exact List.nil_sublist _ | apply List.Sublist.cons_cons | apply List.Sublist.cons)); done) | fail)) (g_move rfl (.mk (v := .slice _ _ _) rfl rfl)) ?_
        refine WH.take 1 rfl (by decide +kernel) (by decide +kernel) (by decide +kernel) rfl rfl (Imp.sub (by first | ((repeat (first | exact List.nil_sublist _ | apply List.Sublist.cons_cons | apply List.Sublist.cons)); done) | fail)) (g_load rfl (.mk rfl rfl) rfl (rd_pt (.head _) rfl)) ?_
        refine WH.take 2 rfl (by decide +kernel) (by decide +kernel) (by decide +kernel) rfl rfl (Imp.sub (by first | ((repeat (first | exact List.nil_sublist _ | apply List.Sublist.cons_cons | apply List.Sublist.cons)); done) | fail)) (g_move rfl (.mk (v := .slice _ _ _) rfl rfl)) ?_
        refine WH.take 3 rfl (by decide +kernel) (by decide +kernel) (by decide +kernel) rfl rfl (Imp.sub (by first | ((repeat (first | exact List.nil_sublist _ | apply List.Sublist.cons_cons | apply List.Sublist.cons)); done) | fail)) (g_load rfl (.mk rfl rfl) rfl (rd_pt (.head _) rfl)) ?_
        refine WH.take 4 rfl (by decide +kernel) (by decide +kernel) (by decide +kernel) rfl rfl (Imp.sub (by first | ((repeat (first | exact List.nil_sublist _ | apply List.Sublist.cons_cons | apply List.Sublist.cons)); done) | fail)) (g_move rfl (.mk (v := .int _ _) rfl rfl)) ?_
        refine WH.take 5 rfl (by decide +kernel) (by decide +kernel) (by decide +kernel) rfl rfl (Imp.sub (by first | ((repeat (first | exact List.nil_sublist _ | apply List.Sublist.cons_cons | apply List.Sublist.cons)); done) | fail)) (g_add rfl (.mk rfl rfl) (.mk rfl rfl) hadd) ?_
        refine WH.take 6 rfl (by decide +kernel) (by decide +kernel) (by decide +kernel) rfl rfl (Imp.sub (by first | ((repeat (first | exact List.nil_sublist _ | apply List.Sublist.cons_cons | apply List.Sublist.cons)); done) | fail)) (g_move rfl (.mk (v := .slice _ _ _) rfl rfl)) ?_
        refine WH.take 7 rfl (by decide +kernel) (by decide +kernel) (by decide +kernel) rfl rfl (Imp.sub (by first | ((repeat (first | exact List.nil_sublist _ | apply List.Sublist.cons_cons | apply List.Sublist.cons)); done) | fail)) (g_load rfl (.mk rfl rfl) rfl (rd_pt (.head _) rfl)) ?_
        refine WH.take 8 rfl (by decide +kernel) (by decide +kernel) (by decide +kernel) rfl rfl (Imp.sub (by first | ((repeat (first | exact List.nil_sublist _ | apply List.Sublist.cons_cons | apply List.Sublist.cons)); done) | fail)) (g_move rfl (.mk (v := .int _ _) rfl rfl)) ?_
        refine WH.take 9 rfl (by decide +kernel) (by decide +kernel) (by decide +kernel) rfl rfl (Imp.sub (by first | ((repeat (first | exact List.nil_sublist _ | apply List.Sublist.cons_cons | apply List.Sublist.cons)); done) | fail)) (g_add rfl (.mk rfl rfl) (.mk rfl rfl) hadd) ?_
        refine WH.take 10 rfl (by decide +kernel) (by decide +kernel) (by decide +kernel) rfl rfl (Imp.sub (by first | ((repeat (first | exact List.nil_sublist _ | apply List.Sublist.cons_cons | apply List.Sublist.cons)); done) | fail)) (g_indexAddr (sz := 1) rfl (.mk rfl rfl) (.mk rfl rfl) rfl rfl rfl (by omega) (fun _ _ => hAo)) ?_
        refine WH.take 12 rfl (by decide +kernel) (by decide +kernel) (by decide +kernel) rfl rfl (Imp.sub (by first | ((repeat (first | exact List.nil_sublist _ | apply List.Sublist.cons_cons | apply List.Sublist.cons)); done) | fail)) (g_move rfl (.mk (v := .slice _ _ _) rfl rfl)) ?_
        refine WH.take 13 rfl (by decide +kernel) (by decide +kernel) (by decide +kernel) rfl rfl (Imp.sub (by first | ((repeat (first | exact List.nil_sublist _ | apply List.Sublist.cons_cons | apply List.Sublist.cons)); done) | fail)) (g_load rfl (.mk rfl rfl) rfl (rd_pt (.head _) rfl)) ?_
        refine WH.take 14 rfl (by decide +kernel) (by decide +kernel) (by decide +kernel) rfl rfl (Imp.sub (by first | ((repeat (first | exact List.nil_sublist _ | apply List.Sublist.cons_cons | apply List.Sublist.cons)); done) | fail)) (g_indexAddr (sz := 1) rfl (.mk rfl rfl) (.mk rfl rfl) rfl rfl rfl (by omega) (fun _ _ => hAo)) ?_
        refine WH.two 11 15 (by decide +kernel) rfl rfl rfl rfl ?_ ?_
        refine WL1.give rfl (g_load rfl (.mk rfl rfl) rfl (rd_vec (.tail _ (.head _)) (get1 (by omega)))) ?_
        refine WL.nil ?_
        refine ⟨(Imp.sub (by first | ((repeat (first | exact List.nil_sublist _ | apply List.Sublist.cons_cons | apply List.Sublist.cons)); done) | fail)), ?_⟩
        refine WH.one 15 (by decide +kernel) rfl rfl ?_
        refine WL1.give rfl (g_load rfl (.mk rfl rfl) rfl (rd_vec (.tail _ (.head _)) (get1 (by omega)))) ?_
        refine WL.nil ?_
        refine ⟨(Imp.sub (by first | ((repeat (first | exact List.nil_sublist _ | apply List.Sublist.cons_cons | apply List.Sublist.cons)); done) | fail)), ?_⟩
        refine WH.take 16 rfl (by decide +kernel) (by decide +kernel) (by decide +kernel) rfl rfl (Imp.sub (by first | ((repeat (first | exact List.nil_sublist _ | apply List.Sublist.cons_cons | apply List.Sublist.cons)); done) | fail)) (g_indexAddr (sz := 1) rfl (.mk rfl rfl) (.mk rfl rfl) rfl rfl rfl (by omega) (fun _ _ => hAo)) ?_
        refine WH.one 17 (by decide +kernel) rfl rfl ?_
        refine WL1.storeV1 rfl rfl (.mk rfl rfl) (.mk (v := Row.v _) rfl rfl) rfl rfl (by first | omega | (simp; done) | (simp; omega)) (.tail (.head)) ?_
        refine WL.nil ?_
        refine ⟨(Imp.sub (by first | ((repeat (first | exact List.nil_sublist _ | apply List.Sublist.cons_cons | apply List.Sublist.cons)); done) | fail)), ?_⟩
        refine WH.take 18 rfl (by decide +kernel) (by decide +kernel) (by decide +kernel) rfl rfl (Imp.sub (by first | ((repeat (first | exact List.nil_sublist _ | apply List.Sublist.cons_cons | apply List.Sublist.cons)); done) | fail)) (g_indexAddr (sz := 1) rfl (.mk rfl rfl) (.mk rfl rfl) rfl rfl rfl (by omega) (fun _ _ => hAo)) ?_
        refine WH.one 19 (by decide +kernel) rfl rfl ?_
        refine WL1.storeV1 rfl rfl (.mk rfl rfl) (.mk (v := Row.v _) rfl rfl) rfl rfl (by first | omega | (simp; done) | (simp; omega)) (.tail (.head)) ?_
        refine WL.nil ?_
        refine ⟨(Imp.sub (by first | ((repeat (first | exact List.nil_sublist _ | apply List.Sublist.cons_cons | apply List.Sublist.cons)); done) | fail)), ?_⟩
        refine WH.done (by decide +kernel) ?_
        rotate_left
        refine WL1.give rfl (g_load rfl (.mk rfl rfl) rfl (rd_vec (.tail _ (.head _)) (get1 (by omega)))) ?_
        refine WL.nil ?_
        refine ⟨(Imp.sub (by first | ((repeat (first | exact List.nil_sublist _ | apply List.Sublist.cons_cons | apply List.Sublist.cons)); done) | fail)), ?_⟩
        refine WH.one 11 (by decide +kernel) rfl rfl ?_
        refine WL1.give rfl (g_load rfl (.mk rfl rfl) rfl (rd_vec (.tail _ (.head _)) (get1 (by omega)))) ?_
        refine WL.nil ?_
        refine ⟨(Imp.sub (by first | ((repeat (first | exact List.nil_sublist _ | apply List.Sublist.cons_cons | apply List.Sublist.cons)); done) | fail)), ?_⟩
        refine WH.take 16 rfl (by decide +kernel) (by decide +kernel) (by decide +kernel) rfl rfl (Imp.sub (by first | ((repeat (first | exact List.nil_sublist _ | apply List.Sublist.cons_cons | apply List.Sublist.cons)); done) | fail)) (g_indexAddr (sz := 1) rfl (.mk rfl rfl) (.mk rfl rfl) rfl rfl rfl (by omega) (fun _ _ => hAo)) ?_
        refine WH.one 17 (by decide +kernel) rfl rfl ?_
        refine WL1.storeV1 rfl rfl (.mk rfl rfl) (.mk (v := Row.v _) rfl rfl) rfl rfl (by first | omega | (simp; done) | (simp; omega)) (.tail (.head)) ?_
        refine WL.nil ?_
        refine ⟨(Imp.sub (by first | ((repeat (first | exact List.nil_sublist _ | apply List.Sublist.cons_cons | apply List.Sublist.cons)); done) | fail)), ?_⟩
        refine WH.take 18 rfl (by decide +kernel) (by decide +kernel) (by decide +kernel) rfl rfl (Imp.sub (by first | ((repeat (first | exact List.nil_sublist _ | apply List.Sublist.cons_cons | apply List.Sublist.cons)); done) | fail)) (g_indexAddr (sz := 1) rfl (.mk rfl rfl) (.mk rfl rfl) rfl rfl rfl (by omega) (fun _ _ => hAo)) ?_
        refine WH.one 19 (by decide +kernel) rfl rfl ?_
        refine WL1.storeV1 rfl rfl (.mk rfl rfl) (.mk (v := Row.v _) rfl rfl) rfl rfl (by first | omega | (simp; done) | (simp; omega)) (.tail (.head)) ?_
        refine WL.nil ?_
        refine ⟨(Imp.sub (by first | ((repeat (first | exact List.nil_sublist _ | apply List.Sublist.cons_cons | apply List.Sublist.cons)); done) | fail)), ?_⟩
        refine WH.done (by decide +kernel) ?_
        rotate_left
        rotate_left
        · exact ⟨swpR rs c (c + q), (by repeat (first | with_reducible exact Out.refl _ _ | refine Out.set rfl ?_ | refine Out.put rfl ?_ | refine Out.sets rfl ?_ | refine Out.hav rfl ?_ | exact Out.refl _ _)), trivial, by rw [swpR_v, Nat.mul_one, Nat.mul_one]; exact (Imp.rowsP (swpR_perm (rs := rs) (c := c) (q := c + q) (by omega) (by omega)) (.tail (.tail .head))).trans (Imp.perm perm3), by rw [swpR_len, hrl], by rw [swpR_els (rs := rs) (c := c) (q := c + q) (by omega) (by omega), hre]⟩
        · exact ⟨swpR rs c (c + q), (by repeat (first | with_reducible exact Out.refl _ _ | refine Out.set rfl ?_ | refine Out.put rfl ?_ | refine Out.sets rfl ?_ | refine Out.hav rfl ?_ | exact Out.refl _ _)), trivial, by rw [swpR_v, Nat.mul_one, Nat.mul_one]; exact (Imp.rowsP (swpR_perm (rs := rs) (c := c) (q := c + q) (by omega) (by omega)) (.tail (.tail .head))).trans (Imp.perm perm3), by rw [swpR_len, hrl], by rw [swpR_els (rs := rs) (c := c) (q := c + q) (by omega) (by omega), hre]⟩
        obtain ⟨hrl1, hre1⟩ := hr1
        obtain ⟨a1, ha1⟩ : ∃ a1, a1 = swp a c (c + q) := ⟨_, rfl⟩
        rw [← ha1] at hre1 hpc hsw
        have hrow3 : ∀ p, p < i → (nth r1 p).l.length = 2 * i := fun p hp => by rw [els_row hre1 (by omega)]; exact hsw.shp.2 p hp
        have hpv1 : nth (nth r1 c).l c ≠ 0 := by rw [el_row (by omega), hre1]; exact hpc
        have hrc := hrow3 c hlt
        have hzl : (zrow (2 * i)).length = 2 * i := zrow_len _
        obtain ⟨f, hf⟩ : ∃ f, f = gfused (zrow (2 * i)) (nth r1 c).l (ginv (nth (nth r1 c).l c)) := ⟨_, rfl⟩
        have hfl : f.length = 2 * i := by rw [hf, gfused_length _ _ _ (by omega), hzl]
        have hfn : ∀ (v1 v2 : Value) (w' : World), Sl w' 1 v1 (2 * i) (bvs (zrow (2 * i))) → Sl w' 1 v2 (nth r1 c).l.length (bvs (nth r1 c).l) → Calls Try.prog 36 #[v1, v2, bv (ginv (nth (nth r1 c).l c))] w' fun e w2 => ∃ v M, e = .returned v ∧ H w' M w2 ∧ ∃ A cc, v = .tuple #[.slice A (2 * i) cc, iv 0] ∧ M = [vec A (2 * i) cc 5 1 (bvs f)] := fun v1 v2 w' h1 h2 => by
          have := fused_n v1 v2 (zrow (2 * i)) (nth r1 c).l (ginv (nth (nth r1 c).l c)) w' (by rw [hzl]; exact h1) h2 (by omega) (by omega)
          rwa [hzl, ← hf] at this
        have hfa : f = gfused (zrow (2 * i)) (nth a1 c) (ginv (el a1 c c)) := by rw [hf, els_row hre1 (k := c) (by omega)]; rfl
        have hmapl1 : (r1.map Row.v).length = i := by rw [List.length_map, hrl1]
        (refine WC.seq ?_; intro K hK)
        refine WC.quiet rfl (by kernel_rfl) (by decide +kernel) ?_
        refine WQ.want rfl (WQ1.give rfl (g_move rfl (.mk (v := .slice _ _ _) rfl rfl)) ?_)
        refine WQ.want rfl (WQ1.give rfl (g_load rfl (.mk rfl rfl) rfl (rd_pt (.tail _ (.tail _ (.head _))) rfl)) ?_)
        refine WQ.want rfl (WQ1.give rfl (g_indexAddr (sz := 1) rfl (.mk rfl rfl) (.mk rfl rfl) rfl rfl rfl (by omega) (fun _ _ => hAo)) ?_)
        refine WQ.want rfl (WQ1.give rfl (g_load rfl (.mk rfl rfl) rfl (rd_vec (.head _) (get1 (by omega)))) ?_)
        refine WQ.want rfl (WQ1.give rfl (g_load rfl (.mk rfl rfl) rfl (rd_pt (.tail _ (.tail _ (.head _))) rfl)) ?_)
        refine WQ.want rfl (WQ1.give rfl (g_indexAddr (sz := 1) rfl (.mk rfl rfl) (.mk rfl rfl) rfl rfl rfl (by omega) (rowA_some (.tail _ (.head _)) (by omega) (by omega))) ?_)
        refine WQ.want rfl (WQ1.give rfl (g_load rfl (.mk rfl rfl) rfl (rd_rowA (.tail _ (.head _)) (by omega) (by omega))) ?_)
        refine WQ.want rfl (WQ1.callP rfl rfl rfl (.cons (.mk (v := .int _ _) rfl rfl) .nil) (fun w hw => Calls.belowS (inv_c (nth (nth r1 c).l c) hpv1 w)) ?_)
        refine WQ.want rfl (WQ1.give rfl (g_move rfl (.mk (v := .tuple _) rfl rfl)) ?_)
        refine WQ.want rfl (WQ1.give rfl (g_extract rfl (.mk rfl rfl) rfl) ?_)
        refine WQ.want rfl (WQ1.give rfl (g_extract rfl (.mk rfl rfl) rfl) ?_)
        refine WQ.want rfl (WQ1.give rfl (g_assign rfl (.mk (v := .int _ _) rfl rfl)) ?_)
        refine WQ.want rfl (WQ1.give rfl (g_assign rfl (.mk (v := .int _ _) rfl rfl)) ?_)
        refine WQ.nil ?_
        (refine hK _ _ ?_; clear hK)
        refine WC.seqP (1298034600552449774963827310329856) (fun _ : List Row => []) (fun r2 => [vec Ao r0.length co 28 1 (r2.map Row.v), rowsA r2, pt b8 3 [iv c]]) (fun r2 => r2.length = i ∧ els r2 = nrm a1 (2 * i) c) ?_ (fun r2 V hr2 => ?_)
        refine WC.held [rowsA r1, pt b8 3 [iv c]] rfl (by kernel_rfl) ?_
        refine WH.take 0 rfl (by decide +kernel) (by decide +kernel) (by decide +kernel) rfl rfl (Imp.sub (by first | ((repeat (first | exact List.nil_sublist _ | apply List.Sublist.cons_cons | apply List.Sublist.cons)); done) | fail)) (g_move rfl (.mk (v := .slice _ _ _) rfl rfl)) ?_
        refine WH.take 1 rfl (by decide +kernel) (by decide +kernel) (by decide +kernel) rfl rfl (Imp.sub (by first | ((repeat (first | exact List.nil_sublist _ | apply List.Sublist.cons_cons | apply List.Sublist.cons)); done) | fail)) (g_load rfl (.mk rfl rfl) rfl (rd_pt (.tail _ (.head _)) rfl)) ?_
        refine WH.take 2 rfl (by decide +kernel) (by decide +kernel) (by decide +kernel) rfl rfl (Imp.sub (by first | ((repeat (first | exact List.nil_sublist _ | apply List.Sublist.cons_cons | apply List.Sublist.cons)); done) | fail)) (g_move rfl (.mk (v := .int _ _) rfl rfl)) ?_
        refine WH.take 3 rfl (by decide +kernel) (by decide +kernel) (by decide +kernel) rfl rfl (Imp.sub (by first | ((repeat (first | exact List.nil_sublist _ | apply List.Sublist.cons_cons | apply List.Sublist.cons)); done) | fail)) (g_mul rfl (.mk rfl rfl) (.mk rfl rfl) hmul) ?_
        refine WH.take 5 rfl (by decide +kernel) (by decide +kernel) (by decide +kernel) rfl rfl (Imp.sub (by first | ((repeat (first | exact List.nil_sublist _ | apply List.Sublist.cons_cons | apply List.Sublist.cons)); done) | fail)) (g_move rfl (.mk (v := .slice _ _ _) rfl rfl)) ?_
        refine WH.take 6 rfl (by decide +kernel) (by decide +kernel) (by decide +kernel) rfl rfl (Imp.sub (by first | ((repeat (first | exact List.nil_sublist _ | apply List.Sublist.cons_cons | apply List.Sublist.cons)); done) | fail)) (g_load rfl (.mk rfl rfl) rfl (rd_pt (.tail _ (.head _)) rfl)) ?_
        refine WH.take 7 rfl (by decide +kernel) (by decide +kernel) (by decide +kernel) rfl rfl (Imp.sub (by first | ((repeat (first | exact List.nil_sublist _ | apply List.Sublist.cons_cons | apply List.Sublist.cons)); done) | fail)) (g_indexAddr (sz := 1) rfl (.mk rfl rfl) (.mk rfl rfl) rfl rfl rfl (by omega) (fun _ _ => hAo)) ?_
        refine WH.take 9 rfl (by decide +kernel) (by decide +kernel) (by decide +kernel) rfl rfl (Imp.sub (by first | ((repeat (first | exact List.nil_sublist _ | apply List.Sublist.cons_cons | apply List.Sublist.cons)); done) | fail)) (g_move rfl (.mk (v := .int _ _) rfl rfl)) ?_
        refine WH.two 4 8 (by decide +kernel) rfl rfl rfl rfl ?_ ?_
        refine WL1.make elB rfl rfl (.mk rfl rfl) (.mk rfl rfl) rfl rfl (by omega) (by unfold maxLen; omega) (fun b100 => ?_)
        refine WL.nil ?_
        refine ⟨(Imp.sub (by first | ((repeat (first | exact List.nil_sublist _ | apply List.Sublist.cons_cons | apply List.Sublist.cons)); done) | fail)), ?_⟩
        refine WH.one 8 (by decide +kernel) rfl rfl ?_
        refine WL1.give rfl (g_load rfl (.mk rfl rfl) rfl (rd_vec (.tail _ (.head _)) (get1 (by omega)))) ?_
        refine WL.nil ?_
        refine ⟨(Imp.sub (by first | ((repeat (first | exact List.nil_sublist _ | apply List.Sublist.cons_cons | apply List.Sublist.cons)); done) | fail)), ?_⟩
        refine WH.one 10 (by decide +kernel) rfl rfl ?_
        (refine WL1.callN rfl rfl rfl (.cons (.mk (v := .slice _ _ _) rfl rfl) (.cons (.mk (v := .slice _ _ _) rfl rfl) (.cons (.mk (v := .int _ _) rfl rfl) .nil))) (fun w hw => hfn _ _ w (Sl.of_vecE hw (by repeat (first | exact .head _ | apply List.Mem.tail)) (by omega) ((madeU _).trans (by rw [← hn]; rfl))) (Sl.of_rowA hw (by repeat (first | exact .head _ | apply List.Mem.tail)) (by omega))) ?_; rintro _ _ ⟨Af, cf, rfl, rfl⟩)
        refine WL.nil ?_
        refine ⟨(Imp.sub (by first | ((repeat (first | exact List.nil_sublist _ | apply List.Sublist.cons_cons | apply List.Sublist.cons)); done) | fail)), ?_⟩
        refine WH.take 11 rfl (by decide +kernel) (by decide +kernel) (by decide +kernel) rfl rfl (Imp.sub (by first | ((repeat (first | exact List.nil_sublist _ | apply List.Sublist.cons_cons | apply List.Sublist.cons)); done) | fail)) (g_move rfl (.mk (v := .tuple _) rfl rfl)) ?_
        refine WH.take 12 rfl (by decide +kernel) (by decide +kernel) (by decide +kernel) rfl rfl (Imp.sub (by first | ((repeat (first | exact List.nil_sublist _ | apply List.Sublist.cons_cons | apply List.Sublist.cons)); done) | fail)) (g_extract rfl (.mk rfl rfl) rfl) ?_
        refine WH.take 13 rfl (by decide +kernel) (by decide +kernel) (by decide +kernel) rfl rfl (Imp.sub (by first | ((repeat (first | exact List.nil_sublist _ | apply List.Sublist.cons_cons | apply List.Sublist.cons)); done) | fail)) (g_extract rfl (.mk rfl rfl) rfl) ?_
        refine WH.take 14 rfl (by decide +kernel) (by decide +kernel) (by decide +kernel) rfl rfl (Imp.sub (by first | ((repeat (first | exact List.nil_sublist _ | apply List.Sublist.cons_cons | apply List.Sublist.cons)); done) | fail)) (g_indexAddr (sz := 1) rfl (.mk rfl rfl) (.mk rfl rfl) rfl rfl rfl (by omega) (fun _ _ => hAo)) ?_
        refine WH.one 15 (by decide +kernel) rfl rfl ?_
        refine WL1.storeV1 rfl rfl (.mk rfl rfl) (.mk (v := .slice _ _ _) rfl rfl) rfl rfl (by first | omega | (simp; done) | (simp; omega)) (.tail (.tail (.head))) ?_
        refine WL.nil ?_
        refine ⟨(Imp.sub (by first | ((repeat (first | exact List.nil_sublist _ | apply List.Sublist.cons_cons | apply List.Sublist.cons)); done) | fail)), ?_⟩
        refine WH.done (by decide +kernel) ?_
        rotate_left
        refine WL1.give rfl (g_load rfl (.mk rfl rfl) rfl (rd_vec (.head _) (get1 (by omega)))) ?_
        refine WL.nil ?_
        refine ⟨(Imp.sub (by first | ((repeat (first | exact List.nil_sublist _ | apply List.Sublist.cons_cons | apply List.Sublist.cons)); done) | fail)), ?_⟩
        refine WH.one 4 (by decide +kernel) rfl rfl ?_
        refine WL1.make elB rfl rfl (.mk rfl rfl) (.mk rfl rfl) rfl rfl (by omega) (by unfold maxLen; omega) (fun b100 => ?_)
        refine WL.nil ?_
        refine ⟨(Imp.sub (by first | ((repeat (first | exact List.nil_sublist _ | apply List.Sublist.cons_cons | apply List.Sublist.cons)); done) | fail)), ?_⟩
        refine WH.one 10 (by decide +kernel) rfl rfl ?_
        (refine WL1.callN rfl rfl rfl (.cons (.mk (v := .slice _ _ _) rfl rfl) (.cons (.mk (v := .slice _ _ _) rfl rfl) (.cons (.mk (v := .int _ _) rfl rfl) .nil))) (fun w hw => hfn _ _ w (Sl.of_vecE hw (by repeat (first | exact .head _ | apply List.Mem.tail)) (by omega) ((madeU _).trans (by rw [← hn]; rfl))) (Sl.of_rowA hw (by repeat (first | exact .head _ | apply List.Mem.tail)) (by omega))) ?_; rintro _ _ ⟨Af, cf, rfl, rfl⟩)
        refine WL.nil ?_
        refine ⟨(Imp.sub (by first | ((repeat (first | exact List.nil_sublist _ | apply List.Sublist.cons_cons | apply List.Sublist.cons)); done) | fail)), ?_⟩
        refine WH.take 11 rfl (by decide +kernel) (by decide +kernel) (by decide +kernel) rfl rfl (Imp.sub (by first | ((repeat (first | exact List.nil_sublist _ | apply List.Sublist.cons_cons | apply List.Sublist.cons)); done) | fail)) (g_move rfl (.mk (v := .tuple _) rfl rfl)) ?_
        refine WH.take 12 rfl (by decide +kernel) (by decide +kernel) (by decide +kernel) rfl rfl (Imp.sub (by first | ((repeat (first | exact List.nil_sublist _ | apply List.Sublist.cons_cons | apply List.Sublist.cons)); done) | fail)) (g_extract rfl (.mk rfl rfl) rfl) ?_
        refine WH.take 13 rfl (by decide +kernel) (by decide +kernel) (by decide +kernel) rfl rfl (Imp.sub (by first | ((repeat (first | exact List.nil_sublist _ | apply List.Sublist.cons_cons | apply List.Sublist.cons)); done) | fail)) (g_extract rfl (.mk rfl rfl) rfl) ?_
        refine WH.take 14 rfl (by decide +kernel) (by decide +kernel) (by decide +kernel) rfl rfl (Imp.sub (by first | ((repeat (first | exact List.nil_sublist _ | apply List.Sublist.cons_cons | apply List.Sublist.cons)); done) | fail)) (g_indexAddr (sz := 1) rfl (.mk rfl rfl) (.mk rfl rfl) rfl rfl rfl (by omega) (fun _ _ => hAo)) ?_
        refine WH.one 15 (by decide +kernel) rfl rfl ?_
        refine WL1.storeV1 rfl rfl (.mk rfl rfl) (.mk (v := .slice _ _ _) rfl rfl) rfl rfl (by first | omega | (simp; done) | (simp; omega)) (.tail (.tail (.head))) ?_
        refine WL.nil ?_
        refine ⟨(Imp.sub (by first | ((repeat (first | exact List.nil_sublist _ | apply List.Sublist.cons_cons | apply List.Sublist.cons)); done) | fail)), ?_⟩
        refine WH.done (by decide +kernel) ?_
        rotate_left
        rotate_left
        · refine ⟨r1.set c ⟨Af, cf, f⟩, (by repeat (first | with_reducible exact Out.refl _ _ | refine Out.set rfl ?_ | refine Out.put rfl ?_ | refine Out.sets rfl ?_ | refine Out.hav rfl ?_ | exact Out.refl _ _)), trivial, ?_, by rw [List.length_set, hrl1], by rw [els_set, hre1, hfa]; rfl⟩
          rw [rowsv_set, Nat.mul_one c, v_of hfl, own_of hfl]
          refine Imp.trans (Imp.put2 (rs := r1) (k := c) (r := ⟨Af, cf, f⟩) (by repeat (first | exact .head | apply Take.tail)) (by repeat (first | exact .head | apply Swap.tail)) (by omega)) ?_
          exact Imp.sub (by repeat (first | exact List.nil_sublist _ | apply List.Sublist.cons_cons | apply List.Sublist.cons))
        · refine ⟨r1.set c ⟨Af, cf, f⟩, (by repeat (first | with_reducible exact Out.refl _ _ | refine Out.set rfl ?_ | refine Out.put rfl ?_ | refine Out.sets rfl ?_ | refine Out.hav rfl ?_ | exact Out.refl _ _)), trivial, ?_, by rw [List.length_set, hrl1], by rw [els_set, hre1, hfa]; rfl⟩
          rw [rowsv_set, Nat.mul_one c, v_of hfl, own_of hfl]
          refine Imp.trans (Imp.put2 (rs := r1) (k := c) (r := ⟨Af, cf, f⟩) (by repeat (first | exact .head | apply Take.tail)) (by repeat (first | exact .head | apply Swap.tail)) (by omega)) ?_
          exact Imp.sub (by repeat (first | exact List.nil_sublist _ | apply List.Sublist.cons_cons | apply List.Sublist.cons))
        obtain ⟨hrl2, hre2⟩ := hr2
        obtain ⟨a2, ha2⟩ : ∃ a2, a2 = nrm a1 (2 * i) c := ⟨_, rfl⟩
        rw [← ha2] at hre2
        have hs2 : Shp a2 i (2 * i) := by rw [ha2]; exact nrm_shp hsw.shp hlt
        have hst : elm a2 i c i = stp a i c q := by rw [ha2, ha1]; rfl
        (refine WC.seq ?_; intro K hK)
        refine WC.region rfl ?_
        refine WL.want rfl (WL1.give rfl (g_move rfl (.mk (v := .slice _ _ _) rfl rfl)) ?_)
        refine WL.want rfl (WL1.give rfl (g_len rfl (.mk rfl rfl) rfl) ?_)
        refine WL.want rfl (WL1.give rfl (g_move rfl (.mk (v := .int _ _) rfl rfl)) ?_)
        refine WL.nil ?_
        (refine hK _ _ ?_; clear hK)
        refine WC.block ?_
        refine WC.loopI2 (2787593144624031034157137155550548859031552) (fun (j : Nat) (r3 : List Row) => [(112, iv j)]) (fun j r3 => [vec Ao r0.length co 28 1 (r3.map Row.v), rowsA r3, pt b8 3 [iv c]]) (fun j r3 => j ≤ i ∧ r3.length = i ∧ els r3 = elm a2 i c j) (fun j _ => i - j) 0 r2 ⟨rfl, trivial⟩ (.refl _) ⟨by omega, hrl2, by rw [hre2, elm_zero hs2.1]⟩ ?_
        rintro j r3 U3 ⟨hj, hrl3, hre3⟩
        have hrow4 : ∀ p, p < i → (nth r3 p).l.length = 2 * i := fun p hp => by rw [els_row hre3 (by omega)]; exact (elm_shp hs2 hlt).2 p hp
        by_cases hlt3 : j < i
        · by_cases hjc : j = c
          · (refine WC.seq ?_; intro K hK)
            refine WC.region rfl ?_
            refine WL.want rfl (WL1.give rfl (g_lt rfl (.mk rfl rfl) (.mk rfl rfl) (decide_eq_true (by omega))) ?_)
            refine WL.nil ?_
            (refine hK _ _ ?_; clear hK)
            (refine WC.seq ?_; intro K hK)
            refine WC.cond_true (.mk rfl rfl) ?_
            refine WC.skip ?_
            (refine hK _ _ ?_; clear hK)
            (refine WC.seq ?_; intro K hK)
            refine WC.block ?_
            (refine WC.seq ?_; intro K hK)
            refine WC.region rfl ?_
            refine WL.want rfl (WL1.give rfl (g_move rfl (.mk (v := .int _ _) rfl rfl)) ?_)
            refine WL.want rfl (WL1.give rfl (g_assign rfl (.mk (v := .int _ _) rfl rfl)) ?_)
            refine WL.nil ?_
            (refine hK _ _ ?_; clear hK)
            (refine WC.seq ?_; intro K hK)
            refine WC.region rfl ?_
            refine WL.want rfl (WL1.give rfl (g_move rfl (.mk (v := .int _ _) rfl rfl)) ?_)
            refine WL.want rfl (WL1.give rfl (g_load rfl (.mk rfl rfl) rfl (rd_pt (.tail _ (.tail _ (.head _))) rfl)) ?_)
            refine WL.want rfl (WL1.give rfl (g_ne rfl (.mk rfl rfl) (.mk rfl rfl) (decide_eq_false (by omega))) ?_)
            refine WL.nil ?_
            (refine hK _ _ ?_; clear hK)
            refine WC.cond_false (.mk rfl rfl) ?_
            refine WC.skip ?_
            (refine hK _ _ ?_; clear hK)
            refine WC.region rfl ?_
            refine WL.want rfl (WL1.give rfl (g_add rfl (.mk rfl rfl) (.mk rfl rfl) (IntWalk.i64_in _ (by omega))) ?_)
            refine WL.want rfl (WL1.give rfl (g_move rfl (.mk (v := .int _ _) rfl rfl)) ?_)
            refine WL.nil ?_
            exact ⟨j + 1, r3, (by repeat (first | with_reducible exact Out.refl _ _ | refine Out.set rfl ?_ | refine Out.put rfl ?_ | refine Out.sets rfl ?_ | refine Out.hav rfl ?_ | exact Out.refl _ _)), ⟨rfl, trivial⟩, .refl _, ⟨by omega, hrl3, by rw [hre3]; exact elm_skip hjc⟩, by omega⟩
          · have hc1 : (r3.map Row.v)[c * 1]? = some (nth r3 c).v := get1 (by omega)
            have hc2 : ∀ x, ((r3.map Row.v).set (j * 1) x)[c * 1]? = some (nth r3 c).v := fun x => by rw [List.getElem?_set_ne (by omega)]; exact hc1
            have hrj := hrow4 j hlt3
            have hrcc := hrow4 c hlt
            obtain ⟨f, hf⟩ : ∃ f, f = gfused (nth r3 j).l (nth r3 c).l (nth (nth r3 j).l c) := ⟨_, rfl⟩
            have hfl : f.length = (nth r3 j).l.length := by rw [hf, gfused_length _ _ _ (by omega)]
            have hfa : f = gfused (nth a2 j) (nth a2 c) (el a2 j c) := by
              have e1 : (nth r3 j).l = nth a2 j := by rw [els_row hre3 (by omega), elm_row hlt3, if_neg (by omega)]
              have e2 : (nth r3 c).l = nth a2 c := by rw [els_row hre3 (by omega), elm_row hlt, if_neg (by omega)]
              rw [hf, e1, e2]; rfl
            have hfn : ∀ (v1 v2 : Value) (w' : World), Sl w' 1 v1 (nth r3 j).l.length (bvs (nth r3 j).l) → Sl w' 1 v2 (nth r3 c).l.length (bvs (nth r3 c).l) → Calls Try.prog 36 #[v1, v2, bv (nth (nth r3 j).l c)] w' fun e w2 => ∃ v M, e = .returned v ∧ H w' M w2 ∧ ∃ A cc, v = .tuple #[.slice A (nth r3 j).l.length cc, iv 0] ∧ M = [vec A (nth r3 j).l.length cc 5 1 (bvs f)] := fun v1 v2 w' h1 h2 => by
              have := fused_n v1 v2 (nth r3 j).l (nth r3 c).l (nth (nth r3 j).l c) w' h1 h2 (by omega) (by omega)
              rwa [← hf] at this
            have hmapl3 : (r3.map Row.v).length = i := by rw [List.length_map, hrl3]
            (refine WC.seq ?_; intro K hK)
            refine WC.region rfl ?_
            refine WL.want rfl (WL1.give rfl (g_lt rfl (.mk rfl rfl) (.mk rfl rfl) (decide_eq_true (by omega))) ?_)
            refine WL.nil ?_
            (refine hK _ _ ?_; clear hK)
            (refine WC.seq ?_; intro K hK)
            refine WC.cond_true (.mk rfl rfl) ?_
            refine WC.skip ?_
            (refine hK _ _ ?_; clear hK)
            (refine WC.seq ?_; intro K hK)
            refine WC.block ?_
            (refine WC.seq ?_; intro K hK)
            refine WC.region rfl ?_
            refine WL.want rfl (WL1.give rfl (g_move rfl (.mk (v := .int _ _) rfl rfl)) ?_)
            refine WL.want rfl (WL1.give rfl (g_assign rfl (.mk (v := .int _ _) rfl rfl)) ?_)
            refine WL.nil ?_
            (refine hK _ _ ?_; clear hK)
            (refine WC.seq ?_; intro K hK)
            refine WC.region rfl ?_
            refine WL.want rfl (WL1.give rfl (g_move rfl (.mk (v := .int _ _) rfl rfl)) ?_)
            refine WL.want rfl (WL1.give rfl (g_load rfl (.mk rfl rfl) rfl (rd_pt (.tail _ (.tail _ (.head _))) rfl)) ?_)
            refine WL.want rfl (WL1.give rfl (g_ne rfl (.mk rfl rfl) (.mk rfl rfl) (decide_eq_true (by omega))) ?_)
            refine WL.nil ?_
            (refine hK _ _ ?_; clear hK)
            refine WC.cond_true (.mk rfl rfl) ?_
            refine WC.held [cellA Ao (c * 1) (nth r3 c).v, rowsA r3, pt b8 3 [iv c]] rfl (by kernel_rfl) ?_
            refine WH.take 0 rfl (by decide +kernel) (by decide +kernel) (by decide +kernel) rfl rfl (by repeat (first | exact Imp.nil _ | apply Imp.cons | (refine Imp.cellc (by first | exact hc1 | exact hc2 _) ?_) | apply Imp.skip)) (g_move rfl (.mk (v := .slice _ _ _) rfl rfl)) ?_
            refine WH.take 1 rfl (by decide +kernel) (by decide +kernel) (by decide +kernel) rfl rfl (by repeat (first | exact Imp.nil _ | apply Imp.cons | (refine Imp.cellc (by first | exact hc1 | exact hc2 _) ?_) | apply Imp.skip)) (g_move rfl (.mk (v := .int _ _) rfl rfl)) ?_
            refine WH.take 2 rfl (by decide +kernel) (by decide +kernel) (by decide +kernel) rfl rfl (by repeat (first | exact Imp.nil _ | apply Imp.cons | (refine Imp.cellc (by first | exact hc1 | exact hc2 _) ?_) | apply Imp.skip)) (g_move rfl (.mk (v := .slice _ _ _) rfl rfl)) ?_
            refine WH.take 3 rfl (by decide +kernel) (by decide +kernel) (by decide +kernel) rfl rfl (by repeat (first | exact Imp.nil _ | apply Imp.cons | (refine Imp.cellc (by first | exact hc1 | exact hc2 _) ?_) | apply Imp.skip)) (g_move rfl (.mk (v := .int _ _) rfl rfl)) ?_
            refine WH.take 4 rfl (by decide +kernel) (by decide +kernel) (by decide +kernel) rfl rfl (by repeat (first | exact Imp.nil _ | apply Imp.cons | (refine Imp.cellc (by first | exact hc1 | exact hc2 _) ?_) | apply Imp.skip)) (g_indexAddr (sz := 1) rfl (.mk rfl rfl) (.mk rfl rfl) rfl rfl rfl (by omega) (fun _ _ => hAo)) ?_
            refine WH.take 6 rfl (by decide +kernel) (by decide +kernel) (by decide +kernel) rfl rfl (by repeat (first | exact Imp.nil _ | apply Imp.cons | (refine Imp.cellc (by first | exact hc1 | exact hc2 _) ?_) | apply Imp.skip)) (g_move rfl (.mk (v := .slice _ _ _) rfl rfl)) ?_
            refine WH.take 7 rfl (by decide +kernel) (by decide +kernel) (by decide +kernel) rfl rfl (by repeat (first | exact Imp.nil _ | apply Imp.cons | (refine Imp.cellc (by first | exact hc1 | exact hc2 _) ?_) | apply Imp.skip)) (g_load rfl (.mk rfl rfl) rfl (rd_pt (.tail _ (.tail _ (.head _))) rfl)) ?_
            refine WH.take 8 rfl (by decide +kernel) (by decide +kernel) (by decide +kernel) rfl rfl (by repeat (first | exact Imp.nil _ | apply Imp.cons | (refine Imp.cellc (by first | exact hc1 | exact hc2 _) ?_) | apply Imp.skip)) (g_indexAddr (sz := 1) rfl (.mk rfl rfl) (.mk rfl rfl) rfl rfl rfl (by omega) (fun _ _ => hAo)) ?_
            refine WH.take 9 rfl (by decide +kernel) (by decide +kernel) (by decide +kernel) rfl rfl (by repeat (first | exact Imp.nil _ | apply Imp.cons | (refine Imp.cellc (by first | exact hc1 | exact hc2 _) ?_) | apply Imp.skip)) (g_load rfl (.mk rfl rfl) rfl (rd_cellA (.head _))) ?_
            refine WH.take 10 rfl (by decide +kernel) (by decide +kernel) (by decide +kernel) rfl rfl (by repeat (first | exact Imp.nil _ | apply Imp.cons | (refine Imp.cellc (by first | exact hc1 | exact hc2 _) ?_) | apply Imp.skip)) (g_move rfl (.mk (v := .slice _ _ _) rfl rfl)) ?_
            refine WH.take 11 rfl (by decide +kernel) (by decide +kernel) (by decide +kernel) rfl rfl (by repeat (first | exact Imp.nil _ | apply Imp.cons | (refine Imp.cellc (by first | exact hc1 | exact hc2 _) ?_) | apply Imp.skip)) (g_move rfl (.mk (v := .int _ _) rfl rfl)) ?_
            refine WH.take 12 rfl (by decide +kernel) (by decide +kernel) (by decide +kernel) rfl rfl (by repeat (first | exact Imp.nil _ | apply Imp.cons | (refine Imp.cellc (by first | exact hc1 | exact hc2 _) ?_) | apply Imp.skip)) (g_indexAddr (sz := 1) rfl (.mk rfl rfl) (.mk rfl rfl) rfl rfl rfl (by omega) (fun _ _ => hAo)) ?_
            refine WH.take 14 rfl (by decide +kernel) (by decide +kernel) (by decide +kernel) rfl rfl (by repeat (first | exact Imp.nil _ | apply Imp.cons | (refine Imp.cellc (by first | exact hc1 | exact hc2 _) ?_) | apply Imp.skip)) (g_load rfl (.mk rfl rfl) rfl (rd_pt (.tail _ (.tail _ (.head _))) rfl)) ?_
            refine WH.two 5 13 (by decide +kernel) rfl rfl rfl rfl ?_ ?_
            refine WL1.give rfl (g_load rfl (.mk rfl rfl) rfl (rd_vec (.head _) (get1 (by omega)))) ?_
            refine WL.nil ?_
            refine ⟨(by repeat (first | exact Imp.nil _ | apply Imp.cons | (refine Imp.cellc (by first | exact hc1 | exact hc2 _) ?_) | apply Imp.skip)), ?_⟩
            refine WH.one 13 (by decide +kernel) rfl rfl ?_
            refine WL1.give rfl (g_load rfl (.mk rfl rfl) rfl (rd_vec (.head _) (get1 (by omega)))) ?_
            refine WL.nil ?_
            refine ⟨(by repeat (first | exact Imp.nil _ | apply Imp.cons | (refine Imp.cellc (by first | exact hc1 | exact hc2 _) ?_) | apply Imp.skip)), ?_⟩
            refine WH.take 15 rfl (by decide +kernel) (by decide +kernel) (by decide +kernel) rfl rfl (by repeat (first | exact Imp.nil _ | apply Imp.cons | (refine Imp.cellc (by first | exact hc1 | exact hc2 _) ?_) | apply Imp.skip)) (g_indexAddr (sz := 1) rfl (.mk rfl rfl) (.mk rfl rfl) rfl rfl rfl (by omega) (rowA_some (.tail _ (.head _)) (by omega) (by omega))) ?_
            refine WH.take 16 rfl (by decide +kernel) (by decide +kernel) (by decide +kernel) rfl rfl (by repeat (first | exact Imp.nil _ | apply Imp.cons | (refine Imp.cellc (by first | exact hc1 | exact hc2 _) ?_) | apply Imp.skip)) (g_load rfl (.mk rfl rfl) rfl (rd_rowA (.tail _ (.head _)) (by omega) (by omega))) ?_
            refine WH.one 17 (by decide +kernel) rfl rfl ?_
            (refine WL1.callN rfl rfl rfl (.cons (.mk (v := .slice _ _ _) rfl rfl) (.cons (.mk (v := .slice _ _ _) rfl rfl) (.cons (.mk (v := .int _ _) rfl rfl) .nil))) (fun w hw => hfn _ _ w (Sl.of_rowA hw (by repeat (first | exact .head _ | apply List.Mem.tail)) (by omega)) (Sl.of_rowA hw (by repeat (first | exact .head _ | apply List.Mem.tail)) (by omega))) ?_; rintro _ _ ⟨Af, cf, rfl, rfl⟩)
            refine WL.nil ?_
            refine ⟨(by repeat (first | exact Imp.nil _ | apply Imp.cons | (refine Imp.cellc (by first | exact hc1 | exact hc2 _) ?_) | apply Imp.skip)), ?_⟩
            refine WH.take 18 rfl (by decide +kernel) (by decide +kernel) (by decide +kernel) rfl rfl (by repeat (first | exact Imp.nil _ | apply Imp.cons | (refine Imp.cellc (by first | exact hc1 | exact hc2 _) ?_) | apply Imp.skip)) (g_move rfl (.mk (v := .tuple _) rfl rfl)) ?_
            refine WH.take 19 rfl (by decide +kernel) (by decide +kernel) (by decide +kernel) rfl rfl (by repeat (first | exact Imp.nil _ | apply Imp.cons | (refine Imp.cellc (by first | exact hc1 | exact hc2 _) ?_) | apply Imp.skip)) (g_extract rfl (.mk rfl rfl) rfl) ?_
            refine WH.take 20 rfl (by decide +kernel) (by decide +kernel) (by decide +kernel) rfl rfl (by repeat (first | exact Imp.nil _ | apply Imp.cons | (refine Imp.cellc (by first | exact hc1 | exact hc2 _) ?_) | apply Imp.skip)) (g_extract rfl (.mk rfl rfl) rfl) ?_
            refine WH.take 21 rfl (by decide +kernel) (by decide +kernel) (by decide +kernel) rfl rfl (by repeat (first | exact Imp.nil _ | apply Imp.cons | (refine Imp.cellc (by first | exact hc1 | exact hc2 _) ?_) | apply Imp.skip)) (g_indexAddr (sz := 1) rfl (.mk rfl rfl) (.mk rfl rfl) rfl rfl rfl (by omega) (fun _ _ => hAo)) ?_
            refine WH.one 22 (by decide +kernel) rfl rfl ?_
            refine WL1.storeV1 rfl rfl (.mk rfl rfl) (.mk (v := .slice _ _ _) rfl rfl) rfl rfl (by first | omega | (simp; done) | (simp; omega)) (.tail (.head)) ?_
            refine WL.nil ?_
            refine ⟨(by repeat (first | exact Imp.nil _ | apply Imp.cons | (refine Imp.cellc (by first | exact hc1 | exact hc2 _) ?_) | apply Imp.skip)), ?_⟩
            refine WH.done (by decide +kernel) ?_
            (refine hK _ _ ?_; clear hK)
            refine WC.region rfl ?_
            refine WL.want rfl (WL1.give rfl (g_add rfl (.mk rfl rfl) (.mk rfl rfl) (IntWalk.i64_in _ (by omega))) ?_)
            refine WL.want rfl (WL1.give rfl (g_move rfl (.mk (v := .int _ _) rfl rfl)) ?_)
            refine WL.nil ?_
            rotate_left
            refine WL1.give rfl (g_load rfl (.mk rfl rfl) rfl (rd_vec (.head _) (get1 (by omega)))) ?_
            refine WL.nil ?_
            refine ⟨(by repeat (first | exact Imp.nil _ | apply Imp.cons | (refine Imp.cellc (by first | exact hc1 | exact hc2 _) ?_) | apply Imp.skip)), ?_⟩
            refine WH.take 15 rfl (by decide +kernel) (by decide +kernel) (by decide +kernel) rfl rfl (by repeat (first | exact Imp.nil _ | apply Imp.cons | (refine Imp.cellc (by first | exact hc1 | exact hc2 _) ?_) | apply Imp.skip)) (g_indexAddr (sz := 1) rfl (.mk rfl rfl) (.mk rfl rfl) rfl rfl rfl (by omega) (rowA_some (.tail _ (.head _)) (by omega) (by omega))) ?_
            refine WH.take 16 rfl (by decide +kernel) (by decide +kernel) (by decide +kernel) rfl rfl (by repeat (first | exact Imp.nil _ | apply Imp.cons | (refine Imp.cellc (by first | exact hc1 | exact hc2 _) ?_) | apply Imp.skip)) (g_load rfl (.mk rfl rfl) rfl (rd_rowA (.tail _ (.head _)) (by omega) (by omega))) ?_
            refine WH.one 5 (by decide +kernel) rfl rfl ?_
            refine WL1.give rfl (g_load rfl (.mk rfl rfl) rfl (rd_vec (.head _) (get1 (by omega)))) ?_
            refine WL.nil ?_
            refine ⟨(by repeat (first | exact Imp.nil _ | apply Imp.cons | (refine Imp.cellc (by first | exact hc1 | exact hc2 _) ?_) | apply Imp.skip)), ?_⟩
            refine WH.one 17 (by decide +kernel) rfl rfl ?_
            (refine WL1.callN rfl rfl rfl (.cons (.mk (v := .slice _ _ _) rfl rfl) (.cons (.mk (v := .slice _ _ _) rfl rfl) (.cons (.mk (v := .int _ _) rfl rfl) .nil))) (fun w hw => hfn _ _ w (Sl.of_rowA hw (by repeat (first | exact .head _ | apply List.Mem.tail)) (by omega)) (Sl.of_rowA hw (by repeat (first | exact .head _ | apply List.Mem.tail)) (by omega))) ?_; rintro _ _ ⟨Af, cf, rfl, rfl⟩)
            refine WL.nil ?_
            refine ⟨(by repeat (first | exact Imp.nil _ | apply Imp.cons | (refine Imp.cellc (by first | exact hc1 | exact hc2 _) ?_) | apply Imp.skip)), ?_⟩
            refine WH.take 18 rfl (by decide +kernel) (by decide +kernel) (by decide +kernel) rfl rfl (by repeat (first | exact Imp.nil _ | apply Imp.cons | (refine Imp.cellc (by first | exact hc1 | exact hc2 _) ?_) | apply Imp.skip)) (g_move rfl (.mk (v := .tuple _) rfl rfl)) ?_
            refine WH.take 19 rfl (by decide +kernel) (by decide +kernel) (by decide +kernel) rfl rfl (by repeat (first | exact Imp.nil _ | apply Imp.cons | (refine Imp.cellc (by first | exact hc1 | exact hc2 _) ?_) | apply Imp.skip)) (g_extract rfl (.mk rfl rfl) rfl) ?_
            refine WH.take 20 rfl (by decide +kernel) (by decide +kernel) (by decide +kernel) rfl rfl (by repeat (first | exact Imp.nil _ | apply Imp.cons | (refine Imp.cellc (by first | exact hc1 | exact hc2 _) ?_) | apply Imp.skip)) (g_extract rfl (.mk rfl rfl) rfl) ?_
            refine WH.take 21 rfl (by decide +kernel) (by decide +kernel) (by decide +kernel) rfl rfl (by repeat (first | exact Imp.nil _ | apply Imp.cons | (refine Imp.cellc (by first | exact hc1 | exact hc2 _) ?_) | apply Imp.skip)) (g_indexAddr (sz := 1) rfl (.mk rfl rfl) (.mk rfl rfl) rfl rfl rfl (by omega) (fun _ _ => hAo)) ?_
            refine WH.one 22 (by decide +kernel) rfl rfl ?_
            refine WL1.storeV1 rfl rfl (.mk rfl rfl) (.mk (v := .slice _ _ _) rfl rfl) rfl rfl (by first | omega | (simp; done) | (simp; omega)) (.tail (.head)) ?_
            refine WL.nil ?_
            refine ⟨(by repeat (first | exact Imp.nil _ | apply Imp.cons | (refine Imp.cellc (by first | exact hc1 | exact hc2 _) ?_) | apply Imp.skip)), ?_⟩
            refine WH.done (by decide +kernel) ?_
            (refine hK _ _ ?_; clear hK)
            refine WC.region rfl ?_
            refine WL.want rfl (WL1.give rfl (g_add rfl (.mk rfl rfl) (.mk rfl rfl) (IntWalk.i64_in _ (by omega))) ?_)
            refine WL.want rfl (WL1.give rfl (g_move rfl (.mk (v := .int _ _) rfl rfl)) ?_)
            refine WL.nil ?_
            rotate_left
            · refine ⟨j + 1, r3.set j ⟨Af, cf, f⟩, (by repeat (first | with_reducible exact Out.refl _ _ | refine Out.set rfl ?_ | refine Out.put rfl ?_ | refine Out.sets rfl ?_ | refine Out.hav rfl ?_ | exact Out.refl _ _)), ⟨rfl, trivial⟩, ?_, ⟨by omega, by rw [List.length_set, hrl3], by rw [els_set, hre3, hfa]; exact elm_set hlt3 hjc⟩, by omega⟩
              rw [rowsv_set, Nat.mul_one j, v_of hfl, own_of hfl]
              exact Imp.put2 (by repeat (first | exact .head | apply Take.tail)) (by repeat (first | exact .head | apply Swap.tail)) (by omega)
            · refine ⟨j + 1, r3.set j ⟨Af, cf, f⟩, (by repeat (first | with_reducible exact Out.refl _ _ | refine Out.set rfl ?_ | refine Out.put rfl ?_ | refine Out.sets rfl ?_ | refine Out.hav rfl ?_ | exact Out.refl _ _)), ⟨rfl, trivial⟩, ?_, ⟨by omega, by rw [List.length_set, hrl3], by rw [els_set, hre3, hfa]; exact elm_set hlt3 hjc⟩, by omega⟩
              rw [rowsv_set, Nat.mul_one j, v_of hfl, own_of hfl]
              exact Imp.put2 (by repeat (first | exact .head | apply Take.tail)) (by repeat (first | exact .head | apply Swap.tail)) (by omega)
        · obtain rfl : j = i := by omega
          (refine WC.seq ?_; intro K hK)
          refine WC.region rfl ?_
          refine WL.want rfl (WL1.give rfl (g_lt rfl (.mk rfl rfl) (.mk rfl rfl) (decide_eq_false (by omega))) ?_)
          refine WL.nil ?_
          (refine hK _ _ ?_; clear hK)
          (refine WC.seq ?_; intro K hK)
          refine WC.cond_false (.mk rfl rfl) ?_
          refine WC.exit ?_
          (clear hK; refine hK _ _ ?_; clear hK)
          refine WC.region rfl ?_
          refine WL.want rfl (WL1.give rfl (g_add rfl (.mk rfl rfl) (.mk rfl rfl) (IntWalk.i64_in _ (by omega))) ?_)
          refine WL.want rfl (WL1.give rfl (g_move rfl (.mk (v := .int _ _) rfl rfl)) ?_)
          refine WL.nil ?_
          exact ⟨c + 1, stp a j c q, r3, (by repeat (first | with_reducible exact Out.refl _ _ | refine Out.set rfl ?_ | refine Out.put rfl ?_ | refine Out.sets rfl ?_ | refine Out.hav rfl ?_ | exact Out.refl _ _)), ⟨rfl, trivial⟩, Imp.sub (.cons_cons _ (.cons_cons _ (.cons _ (.refl _)))), ⟨by omega, hrl3, by rw [hre3, hst], hI2, hgj⟩, by omega⟩
    · obtain rfl : c = i := by omega
      subst hn
      obtain ⟨N, hN⟩ : ∃ N, N = ra.length := ⟨_, rfl⟩
      have hfin : gjr ra.length ra.length (aug m ra.length) = some a := by rw [hgj, Nat.sub_self]; rfl
      have hvv : invM (els ra) = some (a.map (List.drop ra.length)) := by rw [hinv, hfin]; rfl
      have hrow2 : ∀ q, q < ra.length → (nth rs q).l.length = 2 * ra.length := fun q hq => by rw [els_row hre (by omega)]; exact hI.shp.2 q hq
      have hal : (a.map (List.drop ra.length)).length = ra.length := by rw [List.length_map, hI.shp.1]
      (refine WC.seq ?_; intro K hK)
      refine WC.region rfl ?_
      refine WL.want rfl (WL1.give rfl (g_lt rfl (.mk rfl rfl) (.mk rfl rfl) (decide_eq_false (by omega))) ?_)
      refine WL.nil ?_
      (refine hK _ _ ?_; clear hK)
      (refine WC.seq ?_; intro K hK)
      refine WC.cond_false (.mk rfl rfl) ?_
      refine WC.exit ?_
      (clear hK; refine hK _ _ ?_; clear hK)
      (refine WC.seq ?_; intro K hK)
      refine WC.region rfl ?_
      refine WL.want rfl (WL1.give rfl (g_move rfl (.mk (v := .int _ _) rfl rfl)) ?_)
      refine WL.want rfl (WL1.make elR rfl rfl (.mk rfl rfl) (.mk rfl rfl) rfl rfl (by omega) (by unfold maxLen; omega) (fun b143 => ?_))
      refine WL.want rfl (WL1.give rfl (g_assign rfl (.mk (v := .slice _ _ _) rfl rfl)) ?_)
      refine WL.nil ?_
      (refine hK _ _ ?_; clear hK)
      (refine WC.seq ?_; intro K hK)
      (refine WC.seq ?_; intro K hK)
      refine WC.region rfl ?_
      refine WL.want rfl (WL1.give rfl (g_move rfl (.mk (v := .slice _ _ _) rfl rfl)) ?_)
      refine WL.want rfl (WL1.give rfl (g_len rfl (.mk rfl rfl) rfl) ?_)
      refine WL.want rfl (WL1.give rfl (g_move rfl (.mk (v := .int _ _) rfl rfl)) ?_)
      refine WL.nil ?_
      (refine hK _ _ ?_; clear hK)
      refine WC.block ?_
      refine WC.loopI2 (1461412434350108795711118689843192426209908637696) (fun (k : Nat) (ro : List Row) => [(146, iv k)]) (fun k ro => [rowsA ro, vec (some ⟨b143, 0, none⟩) ra.length ra.length 28 1 (ro.map Row.v ++ List.replicate (ra.length - k) (Value.slice none 0 0)), vec Ao r0.length co 28 1 (rs.map Row.v), rowsA rs]) (fun k ro => k ≤ ra.length ∧ ro.length = k ∧ els ro = (a.map (List.drop ra.length)).take k) (fun k _ => ra.length - k) 0 [] ⟨rfl, trivial⟩ ?_ ⟨by omega, rfl, rfl⟩ ?_
      · rw [show (Value.slice none 0 0).cells = #[.slice none 0 0] from rfl, made_one]
        exact Imp.rows_nil _
      · rintro k ro U5 ⟨hk, hkl, hke⟩
        have hol : (ro.map Row.v ++ List.replicate (ra.length - k) (Value.slice none 0 0)).length = ra.length := by simp; omega
        by_cases hlt5 : k < ra.length
        · have hrk := hrow2 k hlt5
          refine WC.learn (fun w hw => rowA_cap (k := k) hw (.tail _ (.tail _ (.tail _ (.head _)))) (by omega)) fun hcap => ?_
          have hdl : ((nth rs k).l.drop ra.length).length = (nth rs k).l.length - ra.length := by rw [List.length_drop]
          (refine WC.seq ?_; intro K hK)
          refine WC.region rfl ?_
          refine WL.want rfl (WL1.give rfl (g_lt rfl (.mk rfl rfl) (.mk rfl rfl) (decide_eq_true (by omega))) ?_)
          refine WL.nil ?_
          (refine hK _ _ ?_; clear hK)
          (refine WC.seq ?_; intro K hK)
          refine WC.cond_true (.mk rfl rfl) ?_
          refine WC.skip ?_
          (refine hK _ _ ?_; clear hK)
          (refine WC.seq ?_; intro K hK)
          refine WC.block ?_
          (refine WC.seq ?_; intro K hK)
          refine WC.region rfl ?_
          refine WL.want rfl (WL1.give rfl (g_move rfl (.mk (v := .int _ _) rfl rfl)) ?_)
          refine WL.want rfl (WL1.give rfl (g_assign rfl (.mk (v := .int _ _) rfl rfl)) ?_)
          refine WL.nil ?_
          (refine hK _ _ ?_; clear hK)
          refine WC.region rfl ?_
          refine WL.want rfl (WL1.give rfl (g_move rfl (.mk (v := .slice _ _ _) rfl rfl)) ?_)
          refine WL.want rfl (WL1.give rfl (g_move rfl (.mk (v := .int _ _) rfl rfl)) ?_)
          refine WL.want rfl (WL1.give rfl (g_move rfl (.mk (v := .slice _ _ _) rfl rfl)) ?_)
          refine WL.want rfl (WL1.give rfl (g_move rfl (.mk (v := .int _ _) rfl rfl)) ?_)
          refine WL.want rfl (WL1.give rfl (g_indexAddr (sz := 1) rfl (.mk rfl rfl) (.mk rfl rfl) rfl rfl rfl (by omega) (fun w hw => vec_some hw (.tail _ (.tail _ (.head _))) (by omega))) ?_)
          refine WL.want rfl (WL1.give rfl (g_load rfl (.mk rfl rfl) rfl (rd_vec (.tail _ (.tail _ (.head _))) (get1 (by omega)))) ?_)
          refine WL.want rfl (WL1.give rfl (g_move rfl (.mk (v := .int _ _) rfl rfl)) ?_)
          refine WL.want rfl (WL1.give rfl (g_slice (sz := 1) (kh := .i64) (q := 0) rfl (.mk rfl rfl) rfl rfl ⟨(.mk rfl rfl), rfl⟩ rfl (by omega) (by omega)) ?_)
          (refine WL.want rfl (WL1.callN rfl rfl rfl (.cons (.mk (v := .slice _ _ _) rfl rfl) .nil) (fun w hw => cloneb_n _ ((nth rs k).l.drop ra.length) w (Sl.drop_row (Sl.of_rowA (k := k) hw (.tail _ (.tail _ (.tail _ (.head _)))) (by omega)) rfl (by omega)) (by omega) (by omega)) ?_); rintro _ _ ⟨Ak, ck, rfl, rfl⟩)
          refine WL.want rfl (WL1.give rfl (g_indexAddr (sz := 1) rfl (.mk rfl rfl) (.mk rfl rfl) rfl rfl rfl (by omega) (fun _ _ => rfl)) ?_)
          refine WL.want rfl (WL1.storeV1 rfl rfl (.mk rfl rfl) (.mk (v := .slice _ _ _) rfl rfl) rfl rfl (by first | omega | (simp; done) | (simp; omega)) (.tail (.tail (.head))) ?_)
          refine WL.nil ?_
          (refine hK _ _ ?_; clear hK)
          refine WC.region rfl ?_
          refine WL.want rfl (WL1.give rfl (g_add rfl (.mk rfl rfl) (.mk rfl rfl) (IntWalk.i64_in _ (by omega))) ?_)
          refine WL.want rfl (WL1.give rfl (g_move rfl (.mk (v := .int _ _) rfl rfl)) ?_)
          refine WL.nil ?_
          refine ⟨k + 1, ro ++ [⟨Ak, ck, (nth rs k).l.drop ra.length⟩], (by repeat (first | with_reducible exact Out.refl _ _ | refine Out.set rfl ?_ | refine Out.put rfl ?_ | refine Out.sets rfl ?_ | refine Out.hav rfl ?_ | exact Out.refl _ _)), ⟨rfl, trivial⟩, ?_, ⟨by omega, by rw [List.length_append, hkl]; rfl, ?_⟩, by omega⟩
          · rw [← nilrow_set ro ⟨Ak, ck, (nth rs k).l.drop ra.length⟩ hkl hlt5 rfl]
            exact Imp.add2 (rs := ro) (r := ⟨Ak, ck, (nth rs k).l.drop ra.length⟩) (by repeat (first | exact .head | apply Take.tail)) (by repeat (first | exact .head | apply Swap.tail))
          · rw [els_add, hke, take_succ_nth (by omega), nth_map _ (by rw [hI.shp.1]; exact hlt5), ← hre, els_at (by omega)]
        · obtain rfl : k = ra.length := by omega
          (refine WC.seq ?_; intro K hK)
          refine WC.region rfl ?_
          refine WL.want rfl (WL1.give rfl (g_lt rfl (.mk rfl rfl) (.mk rfl rfl) (decide_eq_false (by omega))) ?_)
          refine WL.nil ?_
          (refine hK _ _ ?_; clear hK)
          (refine WC.seq ?_; intro K hK)
          refine WC.cond_false (.mk rfl rfl) ?_
          refine WC.exit ?_
          (clear hK; refine hK _ _ ?_; clear hK)
          (refine WC.seq ?_; intro K hK)
          refine WC.region rfl ?_
          refine WL.want rfl (WL1.give rfl (g_move rfl (.mk (v := .slice _ _ _) rfl rfl)) ?_)
          refine WL.want rfl (WL1.give rfl (g_assign rfl (.mk (v := .slice _ _ _) rfl rfl)) ?_)
          refine WL.want rfl (WL1.give rfl (g_assign rfl (.mk (v := .int _ _) rfl rfl)) ?_)
          refine WL.nil ?_
          (refine hK _ _ ?_; clear hK)
          refine WC.ret ?_
          refine fun w' hw' => ⟨_, matM (some ⟨b143, 0, none⟩) ro.length ro, rfl, ?_, .inr ⟨some ⟨b143, 0, none⟩, ro.length, ro, by rw [hkl]; rfl, rfl, by rw [hvv, hke, List.take_of_length_le (by omega)], hkl⟩⟩
          have := ((Imp.sub (.cons_cons _ (.cons_cons _ (List.nil_sublist _)))).trans (Imp.perm (.swap _ _ _))).h hw'
          rw [Nat.sub_self, List.replicate_zero, List.append_nil] at this
          unfold matM
          rw [hkl]; exact this
set_option maxRecDepth 20000 in
set_option maxHeartbeats 1000000 in
theorem inverse_bad (va : Value) (ra : List Row) (w : World) (ha : MatAt w va ra) (h : ¬ (Good (els ra) ∧ (nth ra 0).l.length = ra.length)) : Calls Try.prog 13 #[va] w fun e w' => e = .returned (.tuple #[.slice none 0 0, iv 1]) ∧ Below w.heap.size w w' := by
  obtain ⟨A, c, rfl, hcc, hm, hs⟩ := ha.1.open_
  have hval := fun w' hb => valid_e _ ra w' (ha.below (w' := w') hb)
  by_cases hg : Good (els ra)
  · rw [goodB_iff.2 hg] at hval
    obtain ⟨g1, g2, g3, g4⟩ := hg.parts
    have hne : (nth ra 0).l.length ≠ ra.length := fun e => h ⟨hg, e⟩
    refine calls_wc (args := [.slice A ra.length c]) [2, 3] [] Try.func13 rfl Try.ntmps13 rfl rfl rfl rfl (H.refl w) ?_
    (refine WC.seq ?_; intro K hK)
    refine WC.region rfl ?_
    refine WL.want rfl (WL1.give rfl (g_assign rfl (.mk (v := .slice _ _ _) rfl rfl)) ?_)
    refine WL.want rfl (WL1.give rfl (g_assign rfl (.mk (v := .int _ _) rfl rfl)) ?_)
    refine WL.nil ?_
    (refine hK _ _ ?_; clear hK)
    (refine WC.seq ?_; intro K hK)
    (refine WC.seq ?_; intro K hK)
    refine WC.region rfl ?_
    refine WL.want rfl (WL1.give rfl (g_move rfl (.mk (v := .slice _ _ _) rfl rfl)) ?_)
    refine WL.want rfl (WL1.callP rfl rfl rfl (.cons (.mk (v := .slice _ _ _) rfl rfl) .nil) (fun w hw => hval w hw.1) ?_)
    refine WL.want rfl (WL1.give rfl (g_notT rfl (.mk rfl rfl)) ?_)
    refine WL.want rfl (WL1.give rfl (g_move rfl (.mk (v := .bool _) rfl rfl)) ?_)
    refine WL.wantG rfl rfl rfl rfl (WL1.give rfl (g_move rfl (.mk (v := .slice _ _ _) rfl rfl)) ?_)
    refine WL.wantG rfl rfl rfl rfl (WL1.give rfl (g_len rfl (.mk rfl rfl) rfl) ?_)
    refine WL.wantG rfl rfl rfl rfl (WL1.give rfl (g_move rfl (.mk (v := .slice _ _ _) rfl rfl)) ?_)
    refine WL.wantG rfl rfl rfl rfl (WL1.give rfl (g_indexAddr (sz := 1) rfl (.mk rfl rfl) (.mk rfl rfl) rfl rfl (show _ = ((0 : Nat) : Int) from rfl) (by omega) (fun _ _ => sl_some hs (by omega))) ?_)
    refine WL.wantG rfl rfl rfl rfl (WL1.give rfl (g_load rfl (.mk rfl rfl) rfl (rd_sl hs (get1 (by omega)))) ?_)
    refine WL.wantG rfl rfl rfl rfl (WL1.give rfl (g_len rfl (.mk rfl rfl) rfl) ?_)
    refine WL.wantG rfl rfl rfl rfl (WL1.give rfl (g_ne rfl (.mk rfl rfl) (.mk rfl rfl) (decide_eq_true (by omega))) ?_)
    refine WL.want rfl (WL1.give rfl (g_pickF rfl (.mk rfl rfl) (.mk (v := .bool _) rfl rfl)) ?_)
    refine WL.nil ?_
    (refine hK _ _ ?_; clear hK)
    refine WC.cond_true (.mk rfl rfl) ?_
    (refine WC.seq ?_; intro K hK)
    refine WC.region rfl ?_
    refine WL.want rfl (WL1.give rfl (g_assign rfl (.mk (v := .slice _ _ _) rfl rfl)) ?_)
    refine WL.want rfl (WL1.give rfl (g_assign rfl (.mk (v := .int _ _) rfl rfl)) ?_)
    refine WL.nil ?_
    (refine hK _ _ ?_; clear hK)
    refine WC.ret ?_
    exact fun w' hw' => ⟨rfl, hw'.1⟩
  · rw [goodB_no hg] at hval
    refine calls_wc (args := [.slice A ra.length c]) [2, 3] [] Try.func13 rfl Try.ntmps13 rfl rfl rfl rfl (H.refl w) ?_
    (refine WC.seq ?_; intro K hK)
    refine WC.region rfl ?_
    refine WL.want rfl (WL1.give rfl (g_assign rfl (.mk (v := .slice _ _ _) rfl rfl)) ?_)
    refine WL.want rfl (WL1.give rfl (g_assign rfl (.mk (v := .int _ _) rfl rfl)) ?_)
    refine WL.nil ?_
    (refine hK _ _ ?_; clear hK)
    (refine WC.seq ?_; intro K hK)
    (refine WC.seq ?_; intro K hK)
    refine WC.region rfl ?_
    refine WL.want rfl (WL1.give rfl (g_move rfl (.mk (v := .slice _ _ _) rfl rfl)) ?_)
    refine WL.want rfl (WL1.callP rfl rfl rfl (.cons (.mk (v := .slice _ _ _) rfl rfl) .nil) (fun w hw => hval w hw.1) ?_)
    refine WL.want rfl (WL1.give rfl (g_notF rfl (.mk rfl rfl)) ?_)
    refine WL.want rfl (WL1.give rfl (g_move rfl (.mk (v := .bool _) rfl rfl)) ?_)
    refine WL.skipG rfl rfl rfl rfl rfl rfl ?_
    refine WL.skipG rfl rfl rfl rfl rfl rfl ?_
    refine WL.skipG rfl rfl rfl rfl rfl rfl ?_
    refine WL.skipG rfl rfl rfl rfl rfl rfl ?_
    refine WL.skipG rfl rfl rfl rfl rfl rfl ?_
    refine WL.skipG rfl rfl rfl rfl rfl rfl ?_
    refine WL.skipG rfl rfl rfl rfl rfl rfl ?_
    refine WL.want rfl (WL1.give rfl (g_pickT rfl (.mk rfl rfl) (.mk (v := .bool _) rfl rfl)) ?_)
    refine WL.nil ?_
    (refine hK _ _ ?_; clear hK)
    refine WC.cond_true (.mk rfl rfl) ?_
    (refine WC.seq ?_; intro K hK)
    refine WC.region rfl ?_
    refine WL.want rfl (WL1.give rfl (g_assign rfl (.mk (v := .slice _ _ _) rfl rfl)) ?_)
    refine WL.want rfl (WL1.give rfl (g_assign rfl (.mk (v := .int _ _) rfl rfl)) ?_)
    refine WL.nil ?_
    (refine hK _ _ ?_; clear hK)
    refine WC.ret ?_
    exact fun w' hw' => ⟨rfl, hw'.1⟩
theorem inverse_n (va : Value) (ra : List Row) (v : List (List G)) (w : World) (ha : MatAt w va ra) (hg : Good (els ra)) (hsq : (nth ra 0).l.length = ra.length) (hv : invM (els ra) = some v) :
    Calls Try.prog 13 #[va] w fun e w' => ∃ v' M, e = .returned v' ∧ H w M w' ∧ ∃ A cc rs, v' = .tuple #[.slice A rs.length cc, iv 0] ∧ M = matM A cc rs ∧ els rs = v ∧ rs.length = ra.length :=
  (inverse_c va ra w ha hg hsq).mono fun e w' ⟨v', M, he, hH, h⟩ => ⟨v', M, he, hH, by
    rcases h with ⟨h1, _⟩ | ⟨A, cc, rs, h1, h2, h3, h4⟩
    · rw [hv] at h1; cases h1
    · rw [hv] at h3
      injection h3 with h3
      exact ⟨A, cc, rs, h1, h2, h3.symm, h4⟩⟩
theorem inverse_none (va : Value) (ra : List Row) (w : World) (ha : MatAt w va ra) (hg : Good (els ra)) (hsq : (nth ra 0).l.length = ra.length) (hv : invM (els ra) = none) :
    Calls Try.prog 13 #[va] w fun e w' => e = .returned (.tuple #[.slice none 0 0, iv 3]) ∧ Below w.heap.size w w' :=
  (inverse_c va ra w ha hg hsq).mono fun e w' ⟨v', M, he, hH, h⟩ => by
    rcases h with ⟨_, h2⟩ | ⟨A, cc, rs, h1, h2, h3, h4⟩
    · exact ⟨by rw [he, h2], hH.1⟩
    · rw [hv] at h3; cases h3
end Go.Proofs.Ytlkemgefioiffaa
