/- Texts joined: Mat6, MatS, Gs, Par2, Gb, Par3, Gq, Par4, Par5, Par6, Par7, Par8, Code, Dec1, Gen, Gen2, Dec2, Dec3, Bas, Dec4, IW. The parts say what each of them proves. No condition. -/
import Derived.Test.YtdcijljfgcjelaaGreatJe2
namespace Go.Proofs.YtdcijljfgcjelaaGreat
set_option maxRecDepth 20000
open Go.RowKit
attribute [local irreducible] Calls
theorem MatAt.drop {w : World} {A : Option Addr} {n c l : Nat} {rs : List Row} (h : MatAt w (.slice A n c) rs) (hn : rs.length = n) (hl : l ≤ n) : MatAt w (.slice (subA A c l 1) (n - l) (c - l)) (rs.drop l) := by
  subst hn
  have := h.1.sub hl (Nat.le_refl _)
  rw [Nat.mul_one, Nat.mul_one, ← List.map_drop, List.take_of_length_le (by simp)] at this
  exact ⟨by rw [List.length_drop]; exact this, fun r hr => h.2 r (List.mem_of_mem_drop hr)⟩
theorem MatAt.of_rowsN {w0 w : World} {L : List Asrt} {A : Option Addr} {n c : Nat} {rs : List Row} (hw : H w0 L w) (h0 : vec A n c 99 1 (rs.map Row.v) ∈ L) (h : rowsA rs ∈ L) (hn : rs.length = n) : MatAt w (.slice A n c) rs := by
  subst hn; exact MatAt.of_rowsA hw h0 h
theorem MatAt.tail {w0 w : World} {L : List Asrt} {A : Option Addr} {n c l : Nat} {rs : List Row} (hw : H w0 L w) (h0 : vec A n c 99 1 (rs.map Row.v) ∈ L) (h : rowsA rs ∈ L) (hn : rs.length = n) (hl : l ≤ n) : MatAt w (.slice (subA A c l 1) (n - l) (c - l)) (rs.drop l) :=
  (MatAt.of_rowsN hw h0 h hn).drop hn hl
theorem nth_drop {α : Type} [Inhabited α] (l : List α) (c k : Nat) : nth (l.drop c) k = nth l (c + k) := by unfold nth; simp [List.getD_eq_getElem?_getD, List.getElem?_drop]
theorem pvt_rows {rs : List Row} {a : List (List G)} {n c : Nat} (h : els rs = a) (hl : rs.length = n) (hc : c < n) : fnd (fun k => nz (nth (nth (rs.drop c) k).l c)) (rs.drop c).length = pvt a n c := by
  unfold pvt
  rw [List.length_drop, hl]
  have key : ∀ m, m ≤ n - c → fnd (fun k => nz (nth (nth (rs.drop c) k).l c)) m = fnd (fun k => nz (el a (c + k) c)) m := fun m => by
    induction m with
    | zero => intro _; rfl
    | succ m ih =>
      intro hm
      unfold fnd
      rw [ih (by omega)]
      have e : nth (nth (rs.drop c) m).l c = el a (c + m) c := by rw [nth_drop, el_row (by omega), h]
      rw [e]
  exact key _ (Nat.le_refl _)
theorem rowsv_copy {rs : List Row} {k : Nat} {l : List G} (hk : k < rs.length) (hl : l.length ≤ (nth rs k).l.length) : (rs.set k ((nth rs k).copy l)).map Row.v = rs.map Row.v := by
  rw [List.map_set, Row.copy_v _ hl]
  refine List.ext_getElem? fun j => ?_
  by_cases e : j = k
  · subst e; rw [List.getElem?_set_self (by simpa using hk), List.getElem?_map, nth_get hk]; rfl
  · rw [List.getElem?_set_ne (fun h => e h.symm)]
theorem Sl.drop_row {w : World} {A : Option Addr} {m c n : Nat} {l : List G} (h : Sl w 1 (.slice A m c) m (bvs l)) (hl : l.length = m) (hn : n ≤ m) : Sl w 1 (.slice (subA A c n 1) (m - n) (c - n)) (l.drop n).length (bvs (l.drop n)) := by
  have := h.sub hn (Nat.le_refl _)
  have e : ((bvs l).drop (n * 1)).take ((m - n) * 1) = bvs (l.drop n) := by
    unfold bvs; rw [Nat.mul_one, Nat.mul_one, ← List.map_drop, List.take_of_length_le (by simp; omega)]
  rw [e] at this
  rw [List.length_drop, hl]; exact this
theorem take_succ_nth {α : Type} [Inhabited α] {l : List α} {k : Nat} (h : k < l.length) : l.take (k + 1) = l.take k ++ [nth l k] := by rw [List.take_add_one, nth_get h]; rfl
theorem perm3 {a b c : Asrt} : [a, b, c].Perm [b, c, a] := (List.Perm.swap _ _ _).trans ((List.Perm.swap _ _ _).cons _)
def swpR (rs : List Row) (c q : Nat) : List Row := (rs.set c (nth rs q)).set q (nth rs c)
theorem swpR_perm {rs : List Row} {c q : Nat} (hc : c < rs.length) (hq : q < rs.length) : rs.Perm (swpR rs c q) := by
  unfold swpR
  rw [nth_eq' hc, nth_eq' hq]
  exact (List.set_set_perm hc hq).symm
theorem swpR_v {rs : List Row} {c q : Nat} : (swpR rs c q).map Row.v = ((rs.map Row.v).set c (nth rs q).v).set q (nth rs c).v := by
  unfold swpR; rw [List.map_set, List.map_set]
theorem swpR_els {rs : List Row} {c q : Nat} (hc : c < rs.length) (hq : q < rs.length) : els (swpR rs c q) = swp (els rs) c q := by
  unfold swpR swp
  rw [els_set, els_set, els_at hc, els_at hq]
theorem swpR_len {rs : List Row} {c q : Nat} : (swpR rs c q).length = rs.length := by simp [swpR]
theorem Imp.rowsP {rs rs' : List Row} {L L' : List Asrt} (h : rs.Perm rs') (hs : Swap (rowsA rs) (rowsA rs') L L') : Imp L L' := by
  obtain ⟨L1, p1, p2⟩ := hs.perms
  exact (Imp.perm p1).trans ((Imp.rows_perm h L1).trans (Imp.perm p2.symm))
theorem augF {m : List (List G)} {n i : Nat} (hi : i < n) (hl : (nth m i).length = n) : (nth m i ++ (zrow (2 * n)).drop (nth m i).length).set (n + i) 1 = nth m i ++ (List.range n).map fun j => dlt i j := by
  have e1 : (zrow (2 * n)).drop (nth m i).length = zrow n := by unfold zrow; rw [List.drop_replicate, hl]; congr 1; omega
  rw [e1, List.set_append_right _ _ (by omega), hl, Nat.add_sub_cancel_left, unit_row hi]
theorem inv_c (a : G) (h : a ≠ 0) (w : World) : Calls Tryz.prog 140 #[bv a] w fun e w' => e = .returned (.tuple #[bv (ginv a), iv 0]) ∧ w' = w := (inv_any a h w).mono fun _ _ ⟨h1, h2⟩ => ⟨h1, h2.symm⟩
set_option maxHeartbeats 4000000 in
theorem inverse_c (va : Value) (ra : List Row) (w : World) (ha : MatAt w va ra) (hg : Good (els ra)) (hsq : (nth ra 0).l.length = ra.length) :
    Calls Tryz.prog 91 #[va] w fun e w' => ∃ v' M, e = .returned v' ∧ H w M w' ∧ ((invM (els ra) = none ∧ v' = .tuple #[.slice none 0 0, iv 3]) ∨ ∃ A cc rs, v' = .tuple #[.slice A rs.length cc, iv 0] ∧ M = matM A cc rs ∧ invM (els ra) = some (els rs) ∧ rs.length = ra.length) := by
  obtain ⟨A, c, rfl, hcc, hm, hs⟩ := ha.1.open_
  have hval := fun w' hb => valid_e _ ra w' (ha.below (w' := w') hb)
  rw [goodB_iff.2 hg] at hval
  obtain ⟨g1, g2, g3, g4⟩ := hg.parts
  obtain ⟨n, hn⟩ : ∃ n, n = ra.length := ⟨_, rfl⟩
  obtain ⟨m, hmm⟩ : ∃ m, m = els ra := ⟨_, rfl⟩
  have hrow : ∀ i, i < n → (nth ra i).l.length = n := fun i hi => by rw [hg.row (by omega), hsq, hn]
  have hshp : Shp m n n := ⟨by rw [hmm, els_len, hn], fun i hi => by rw [hmm, els_at (by omega), hrow i hi]⟩
  have hinv : invM (els ra) = (gjr n n (aug m n)).map fun a => a.map (List.drop n) := by unfold invM; rw [← hmm, hshp.1]
  have hmul : IntKind.i64.wrap (2 * (ra.length : Int)) = ((2 * ra.length : Nat) : Int) := by rw [IntWalk.i64_in _ (by omega)]; omega
  refine calls_wc (args := [.slice A ra.length c]) [2, 3] [] Tryz.func91 rfl Tryz.ntmps91 rfl rfl rfl rfl (H.refl w) ?_
  refine WC.seq fun K hK => ?_
  refine WC.region rfl ?_
  refine wAS rfl rfl rfl rfl rfl ?_
  refine wAI rfl rfl rfl rfl rfl ?_
  refine WL.nil (hK _ _ ?_); clear hK
  refine WC.seq fun K hK => ?_
  refine WC.seq fun K hK => ?_
  refine WC.region rfl ?_
  refine wMS rfl rfl rfl rfl rfl ?_
  refine WL.want rfl (WL1.callP rfl rfl rfl (.cons (.mk (v := .slice _ _ _) rfl rfl) .nil) (fun w hw => hval w hw.1) ?_)
  refine wG rfl rfl (g_notT rfl (.mk rfl rfl)) ?_
  refine wMB rfl rfl rfl rfl rfl ?_
  refine WL.wantG rfl rfl rfl rfl (WL1.give rfl (g_move rfl (.mk (v := .slice _ _ _) rfl rfl)) ?_)
  refine WL.wantG rfl rfl rfl rfl (WL1.give rfl (g_len rfl (.mk rfl rfl) rfl) ?_)
  refine WL.wantG rfl rfl rfl rfl (WL1.give rfl (g_move rfl (.mk (v := .slice _ _ _) rfl rfl)) ?_)
  refine WL.wantG rfl rfl rfl rfl (WL1.give rfl (g_indexAddr (sz := 1) rfl (.mk rfl rfl) (.mk rfl rfl) rfl rfl (show _ = ((0 : Nat) : Int) from rfl) (by omega) (fun _ _ => sl_some hs (by omega))) ?_)
  refine WL.wantG rfl rfl rfl rfl (WL1.give rfl (g_load rfl (.mk rfl rfl) rfl (rd_sl hs (get1 (by omega)))) ?_)
  refine WL.wantG rfl rfl rfl rfl (WL1.give rfl (g_len rfl (.mk rfl rfl) rfl) ?_)
  refine WL.wantG rfl rfl rfl rfl (WL1.give rfl (g_ne rfl (.mk rfl rfl) (.mk rfl rfl) (decide_eq_false (by omega))) ?_)
  refine wG rfl rfl (g_pickF rfl (.mk rfl rfl) (.mk (v := .bool _) rfl rfl)) ?_
  refine WL.nil (hK _ _ ?_); clear hK
  refine WC.cond_false (.mk rfl rfl) ?_
  refine WC.skip ?_
  (refine hK _ _ ?_; clear hK)
  refine WC.seq fun K hK => ?_
  refine WC.region rfl ?_
  refine wMS rfl rfl rfl rfl rfl ?_
  refine wG rfl rfl (g_len rfl (.mk rfl rfl) rfl) ?_
  refine wAI rfl rfl rfl rfl rfl ?_
  refine WL.nil (hK _ _ ?_); clear hK
  refine WC.seq fun K hK => ?_
  refine WC.region rfl ?_
  refine wMI rfl rfl rfl rfl rfl ?_
  refine wMI rfl rfl rfl rfl rfl ?_
  refine wG rfl rfl (g_mul rfl (.mk rfl rfl) (.mk rfl rfl) hmul) ?_
  (refine WL.want rfl (WL1.callN rfl rfl rfl (.cons (.mk (v := .int _ _) rfl rfl) (.cons (.mk (v := .int _ _) rfl rfl) .nil)) (fun w hw => blank_n ra.length (2 * ra.length) w (by omega) (by omega)) ?_); rintro _ _ ⟨Ao, co, r0, rfl, rfl, hre0, hrl0⟩)
  refine wAS rfl rfl rfl rfl rfl ?_
  refine WL.nil (hK _ _ ?_); clear hK
  refine WC.seq fun K hK => ?_
  refine WC.seq fun K hK => ?_
  refine WC.region rfl ?_
  refine wMS rfl rfl rfl rfl rfl ?_
  refine wG rfl rfl (g_len rfl (.mk rfl rfl) rfl) ?_
  refine wMI rfl rfl rfl rfl rfl ?_
  refine WL.nil (hK _ _ ?_); clear hK
  refine WC.block ?_
  rw [← hn] at hre0 hrl0
  refine WC.loopI2 (36028762659225792) (fun (i : Nat) (rs : List Row) => [(35, iv i)]) (fun i rs => [vec Ao r0.length co 99 1 (rs.map Row.v), rowsA rs]) (fun i rs => i ≤ n ∧ rs.length = n ∧ els rs = prg n (fun i => nth m i ++ (List.range n).map fun j => dlt i j) (zrow (2 * n)) (zrow (2 * n)) i) (fun i _ => n - i) 0 r0 ⟨rfl, trivial⟩ (by rw [List.append_nil]; exact .refl _) ⟨by omega, hrl0, by rw [hre0, prg_zero]⟩ ?_
  rintro i rs U ⟨hi, hrl, hre⟩
  by_cases hlt : i < n
  · have hri : (nth rs i).l = zrow (2 * n) := by rw [els_row hre (by omega), prg_at hlt]
    have hrl2 : (nth rs i).l.length = 2 * n := by rw [hri, zrow_len]
    have hral := hrow i hlt
    have hmi : (nth ra i).l = nth m i := by rw [hmm, els_at (by omega)]
    have hcl : (nth ra i).l.length ≤ (nth rs i).l.length := by omega
    refine WC.learn (fun w hw => rowA_some (k := i) (.tail _ (.head _)) (by omega) (by omega) w hw) fun hAs => ?_
    obtain ⟨r1, hr1⟩ : ∃ r1, r1 = (nth rs i).copy (nth ra i).l := ⟨_, rfl⟩
    have hr1A : r1.A = (nth rs i).A := by rw [hr1]; rfl
    have hr1l : r1.l.length = 2 * n := by rw [hr1, Row.copy, List.length_append, List.length_drop]; omega
    have hn1 : nth (rs.set i r1) i = r1 := by rw [nth_put (by omega), if_pos rfl]
    have hrow1 := ha.row (k := i) (by omega)
    refine WC.seq fun K hK => ?_
    refine WC.region rfl ?_
    refine wG rfl rfl (g_lt rfl (.mk rfl rfl) (.mk rfl rfl) (decide_eq_true (by omega))) ?_
    refine WL.nil (hK _ _ ?_); clear hK
    refine WC.seq fun K hK => ?_
    refine WC.cond_true (.mk rfl rfl) ?_
    refine WC.skip ?_
    (refine hK _ _ ?_; clear hK)
    refine WC.seq fun K hK => ?_
    refine WC.block ?_
    refine WC.seq fun K hK => ?_
    refine WC.region rfl ?_
    refine wMI rfl rfl rfl rfl rfl ?_
    refine wG rfl rfl (g_indexAddr (sz := 1) rfl (.mk rfl rfl) (.mk rfl rfl) rfl rfl rfl (by omega) (fun _ _ => sl_some hs (by omega))) ?_
    refine wG rfl rfl (g_load rfl (.mk rfl rfl) rfl (rd_sl hs (get1 (by omega)))) ?_
    refine wAI rfl rfl rfl rfl rfl ?_
    refine wAS rfl rfl rfl rfl rfl ?_
    refine WL.nil (hK _ _ ?_); clear hK
    refine WC.seq fun K hK => ?_
    refine WC.region rfl ?_
    refine wMS rfl rfl rfl rfl rfl ?_
    refine wMI rfl rfl rfl rfl rfl ?_
    refine wG rfl rfl (g_indexAddr (sz := 1) rfl (.mk rfl rfl) (.mk rfl rfl) rfl rfl rfl (by omega) (fun w hw => vec_some hw (.head _) (by omega))) ?_
    refine wG rfl rfl (g_load rfl (.mk rfl rfl) rfl (rd_vec (.head _) (get1 (by omega)))) ?_
    refine wMS rfl rfl rfl rfl rfl ?_
    refine WL.want rfl (WL1.copyRow (l := (nth ra i).l) rfl (by kernel_rfl) rfl rfl (.mk rfl rfl) rfl rfl (.mk rfl rfl) (by omega) (by omega) hcl (fun w hw => Sl.below hrow1 hw.1) (.tail .head) ?_)
    refine WL.nil (hK _ _ ?_); clear hK
    refine WC.region rfl ?_
    refine wMS rfl rfl rfl rfl rfl ?_
    refine wMI rfl rfl rfl rfl rfl ?_
    refine wG rfl rfl (g_indexAddr (sz := 1) rfl (.mk rfl rfl) (.mk rfl rfl) rfl rfl rfl (by omega) (fun w hw => vec_some hw (.head _) (by omega))) ?_
    refine wG rfl rfl (g_load rfl (.mk rfl rfl) rfl (rd_vec (.head _) (get1 (by omega)))) ?_
    refine wMI rfl rfl rfl rfl rfl ?_
    refine wMI rfl rfl rfl rfl rfl ?_
    refine wG rfl rfl (g_add rfl (.mk rfl rfl) (.mk rfl rfl) (IntWalk.i64_in _ (by omega))) ?_
    refine wG rfl rfl (g_indexAddr (sz := 1) rfl (.mk rfl rfl) (.mk rfl rfl) rfl rfl rfl (by omega) (fun _ _ => hAs)) ?_
    refine WL.want rfl (WL1.storeRow (rs := rs.set i ((nth rs i).copy (nth ra i).l)) (k := i) (g := 1) (j := ra.length + i) rfl rfl (.mk rfl rfl) (by rw [← hr1, hn1, hr1A]) rfl (.mk rfl rfl) rfl rfl (by rw [List.length_set]; omega) (by rw [← hr1, hn1]; omega) (.tail .head) ?_)
    refine WL.nil (hK _ _ ?_); clear hK
    refine WC.region rfl ?_
    refine wG rfl rfl (g_add rfl (.mk rfl rfl) (.mk rfl rfl) (IntWalk.i64_in _ (by omega))) ?_
    refine wMI rfl rfl rfl rfl rfl ?_
    refine WL.nil ?_
    refine ⟨i + 1, (rs.set i ((nth rs i).copy (nth ra i).l)).set i ((nth (rs.set i ((nth rs i).copy (nth ra i).l)) i).put (ra.length + i) 1), (by repeat (first | with_reducible exact Out.refl _ _ | refine Out.set rfl ?_ | refine Out.put rfl ?_ | refine Out.sets rfl ?_ | refine Out.hav rfl ?_ | exact Out.refl _ _)), ⟨rfl, trivial⟩, ?_, ⟨by omega, by rw [List.length_set, List.length_set, hrl], ?_⟩, by omega⟩
    · rw [rowsv_put (by rw [List.length_set]; omega), rowsv_copy (by omega) hcl]; exact .refl _
    · rw [els_set, els_set, List.set_set, ← hr1, hn1, hre]
      have e1 : (r1.put (ra.length + i) 1).l = nth m i ++ (List.range n).map fun j => dlt i j := by
        rw [hr1]
        show ((nth ra i).l ++ (nth rs i).l.drop (nth ra i).l.length).set (ra.length + i) 1 = _
        rw [hri, hmi, ← hn]
        exact augF hlt (by rw [← hmi]; exact hral)
      rw [e1]
      exact (prg_set hlt).trans prg_next
  · obtain rfl : i = n := by omega
    have hau : els rs = aug m i := by rw [hre, prg_all]; rfl
    refine WC.seq fun K hK => ?_
    refine WC.region rfl ?_
    refine wG rfl rfl (g_lt rfl (.mk rfl rfl) (.mk rfl rfl) (decide_eq_false (by omega))) ?_
    refine WL.nil (hK _ _ ?_); clear hK
    refine WC.seq fun K hK => ?_
    refine WC.cond_false (.mk rfl rfl) ?_
    refine WC.exit ?_
    (clear hK; refine hK _ _ ?_; clear hK)
    refine WC.seq fun K hK => ?_
    refine WC.seq fun K hK => ?_
    refine WC.region rfl ?_
    refine wMI rfl rfl rfl rfl rfl ?_
    refine wMI rfl rfl rfl rfl rfl ?_
    refine WL.nil (hK _ _ ?_); clear hK
    refine WC.block ?_
    refine WC.loopI3 (5575186299632655785383929496104496338575116) (fun (c : Nat) (a : List (List G)) (rs : List Row) => [(56, iv c)]) (fun c a rs => [vec Ao r0.length co 99 1 (rs.map Row.v), rowsA rs]) (fun c a rs => c ≤ i ∧ rs.length = i ∧ els rs = a ∧ Inv m a i c ∧ gjr i i (aug m i) = gjr i (i - c) a) (fun c _ _ => i - c) 0 (aug m i) rs ⟨rfl, trivial⟩ (.refl _) ⟨by omega, hrl, hau, aug_inv hshp, by rw [Nat.sub_zero]⟩ ?_
    clear hre hau
    rintro c a rs U ⟨hc, hrl, hre, hI, hgj⟩
    by_cases hlt : c < i
    · have hrow2 : ∀ q, q < i → (nth rs q).l.length = 2 * i := fun q hq => by rw [els_row hre (by omega)]; exact hI.shp.2 q hq
      have hpv := pvt_rows hre hrl hlt
      have hkk : i - c = (i - (c + 1)) + 1 := by omega
      rw [hkk] at hgj
      simp only [gjr] at hgj
      rw [show i - (i - (c + 1) + 1) = c from by omega] at hgj
      have hidx := fun (v : Value) (b : Nat) (w' : World) h1 h2 h3 => index_rows v (rs.drop c) b c w' h1 h2 h3
      rw [hpv] at hidx
      have hcol : ∀ k, k < (rs.drop c).length → c < (nth (rs.drop c) k).l.length := fun k hk => by rw [nth_drop, hrow2 _ (by rw [List.length_drop] at hk; omega)]; omega
      refine WC.learn (fun w hw => vec_some hw (.head _) (by omega)) fun hAo => ?_
      cases hp : pvt a i c with
      | none =>
        rw [hp] at hgj hidx
        rw [show fz none = -1 from rfl] at hidx
        have hfin : invM (els ra) = none := by rw [hinv, hgj]; rfl
        refine WC.seq fun K hK => ?_
        refine WC.region rfl ?_
        refine wG rfl rfl (g_lt rfl (.mk rfl rfl) (.mk rfl rfl) (decide_eq_true (by omega))) ?_
        refine WL.nil (hK _ _ ?_); clear hK
        refine WC.seq fun K hK => ?_
        refine WC.cond_true (.mk rfl rfl) ?_
        refine WC.skip ?_
        (refine hK _ _ ?_; clear hK)
        refine WC.seq fun K hK => ?_
        refine WC.block ?_
        refine WC.seq fun K hK => ?_
        refine WC.region rfl ?_
        refine wMI rfl rfl rfl rfl rfl ?_
        refine WL.want rfl (WL1.alloc rfl rfl rfl rfl (fun b8 => ?_))
        refine WL.want rfl (WL1.store1 rfl rfl (.mk rfl rfl) (.mk (v := .int _ _) rfl rfl) rfl rfl (Nat.le_of_ble_eq_true rfl) (.head) ?_)
        refine WL.nil (hK _ _ ?_); clear hK
        refine WC.seq fun K hK => ?_
        refine WC.region rfl ?_
        refine wMS rfl rfl rfl rfl rfl ?_
        refine wG rfl rfl (g_load rfl (.mk rfl rfl) rfl (rd_pt (.head _) rfl)) ?_
        refine wG rfl rfl (g_sliceC (sz := 1) (kh := .i64) (q := 0) rfl (.mk rfl rfl) rfl rfl ⟨(.mk rfl rfl), rfl⟩ rfl (by omega) (fun w hw => Nat.le_trans (by omega) (vec_cap hw (.tail _ (.head _))))) ?_
        refine wG rfl rfl (g_makeFunc rfl (.cons (.mk (v := cellPtr _ _) rfl rfl) .nil)) ?_
        refine WL.want rfl (WL1.callP rfl rfl rfl (.cons (.mk (v := .slice _ _ _) rfl rfl) (.cons (.mk (v := .func _ _ _) rfl rfl) .nil)) (fun w hw => hidx _ b8 w (MatAt.tail hw (by repeat (first | exact .head _ | apply List.Mem.tail)) (by repeat (first | exact .head _ | apply List.Mem.tail)) (by omega) (by omega)) (cell_pt hw (by repeat (first | exact .head _ | apply List.Mem.tail)) rfl) hcol) ?_)
        refine wAI rfl rfl rfl rfl rfl ?_
        refine WL.nil (hK _ _ ?_); clear hK
        refine WC.seq fun K hK => ?_
        refine WC.seq fun K hK => ?_
        refine WC.region rfl ?_
        refine wMI rfl rfl rfl rfl rfl ?_
        refine wG rfl rfl (g_lt rfl (.mk rfl rfl) (.mk rfl rfl) (decide_eq_true (by omega))) ?_
        refine WL.nil (hK _ _ ?_); clear hK
        refine WC.cond_true (.mk rfl rfl) ?_
        refine WC.seq fun K hK => ?_
        refine WC.region rfl ?_
        refine wAS rfl rfl rfl rfl rfl ?_
        refine wAI rfl rfl rfl rfl rfl ?_
        refine WL.nil (hK _ _ ?_); clear hK
        refine WC.ret ?_
        exact fun w' hw' => ⟨_, _, rfl, hw', .inl ⟨hfin, rfl⟩⟩
      | some q =>
        rw [hp] at hgj hidx
        rw [show fz (some q) = (q : Int) from rfl] at hidx
        obtain ⟨hq, hI2⟩ := stp_inv hI hlt hp
        have hsw := swp_inv hI hlt hq (by omega)
        have hpc : el (swp a c (c + q)) c c ≠ 0 := by
          rw [swp_el hI.shp hlt hq]
          have h3 := nz_t.1 (fnd_some hp).2.1
          by_cases e : c = c + q
          · rw [if_pos e]; rw [← e] at h3; exact h3
          · rw [if_neg e, if_pos rfl]; exact h3
        have hadd : IntKind.i64.wrap ((c : Int) + (q : Int)) = ((c + q : Nat) : Int) := by rw [IntWalk.i64_in _ (by omega)]; omega
        have hmapl : (rs.map Row.v).length = i := by rw [List.length_map, hrl]
        refine WC.seq fun K hK => ?_
        refine WC.region rfl ?_
        refine wG rfl rfl (g_lt rfl (.mk rfl rfl) (.mk rfl rfl) (decide_eq_true (by omega))) ?_
        refine WL.nil (hK _ _ ?_); clear hK
        refine WC.seq fun K hK => ?_
        refine WC.cond_true (.mk rfl rfl) ?_
        refine WC.skip ?_
        (refine hK _ _ ?_; clear hK)
        refine WC.seq fun K hK => ?_
        refine WC.block ?_
        refine WC.seq fun K hK => ?_
        refine WC.region rfl ?_
        refine wMI rfl rfl rfl rfl rfl ?_
        refine WL.want rfl (WL1.alloc rfl rfl rfl rfl (fun b8 => ?_))
        refine WL.want rfl (WL1.store1 rfl rfl (.mk rfl rfl) (.mk (v := .int _ _) rfl rfl) rfl rfl (Nat.le_of_ble_eq_true rfl) (.head) ?_)
        refine WL.nil (hK _ _ ?_); clear hK
        refine WC.seq fun K hK => ?_
        refine WC.region rfl ?_
        refine wMS rfl rfl rfl rfl rfl ?_
        refine wG rfl rfl (g_load rfl (.mk rfl rfl) rfl (rd_pt (.head _) rfl)) ?_
        refine wG rfl rfl (g_sliceC (sz := 1) (kh := .i64) (q := 0) rfl (.mk rfl rfl) rfl rfl ⟨(.mk rfl rfl), rfl⟩ rfl (by omega) (fun w hw => Nat.le_trans (by omega) (vec_cap hw (.tail _ (.head _))))) ?_
        refine wG rfl rfl (g_makeFunc rfl (.cons (.mk (v := cellPtr _ _) rfl rfl) .nil)) ?_
        refine WL.want rfl (WL1.callP rfl rfl rfl (.cons (.mk (v := .slice _ _ _) rfl rfl) (.cons (.mk (v := .func _ _ _) rfl rfl) .nil)) (fun w hw => hidx _ b8 w (MatAt.tail hw (by repeat (first | exact .head _ | apply List.Mem.tail)) (by repeat (first | exact .head _ | apply List.Mem.tail)) (by omega) (by omega)) (cell_pt hw (by repeat (first | exact .head _ | apply List.Mem.tail)) rfl) hcol) ?_)
        refine wAI rfl rfl rfl rfl rfl ?_
        refine WL.nil (hK _ _ ?_); clear hK
        refine WC.seq fun K hK => ?_
        refine WC.seq fun K hK => ?_
        refine WC.region rfl ?_
        refine wMI rfl rfl rfl rfl rfl ?_
        refine wG rfl rfl (g_lt rfl (.mk rfl rfl) (.mk rfl rfl) (decide_eq_false (by omega))) ?_
        refine WL.nil (hK _ _ ?_); clear hK
        refine WC.cond_false (.mk rfl rfl) ?_
        refine WC.skip ?_
        (refine hK _ _ ?_; clear hK)
        refine WC.seqP (19342739326857771957092352) (fun _ : List Row => []) (fun r1 => [vec Ao r0.length co 99 1 (r1.map Row.v), rowsA r1, pt b8 3 [iv c]]) (fun r1 => r1.length = i ∧ els r1 = swp a c (c + q)) ?_ (fun r1 V hr1 => ?_)
        refine WC.held [pt b8 3 [iv c], rowsA rs] rfl (by kernel_rfl) ?_
        refine WH.take 0 rfl (by decide +kernel) (by decide +kernel) (by decide +kernel) rfl rfl (Imp.sub (by first | ((repeat (first | exact List.nil_sublist _ | apply List.Sublist.cons_cons | apply List.Sublist.cons)); done) | fail)) (g_move rfl (.mk (v := .slice _ _ _) rfl rfl)) ?_
        refine WH.take 1 rfl (by decide +kernel) (by decide +kernel) (by decide +kernel) rfl rfl (Imp.sub (by first | ((repeat (first | exact List.nil_sublist _ | apply List.Sublist.cons_cons | apply List.Sublist.cons)); done) | fail)) (g_load rfl (.mk rfl rfl) rfl (rd_pt (.head _) rfl)) ?_
        refine WH.take 2 rfl (by decide +kernel) (by decide +kernel) (by decide +kernel) rfl rfl (Imp.sub (by first | ((repeat (first | exact List.nil_sublist _ | apply List.Sublist.cons_cons | apply List.Sublist.cons)); done) | fail)) (g_move rfl (.mk (v := .slice _ _ _) rfl rfl)) ?_
        refine WH.take 3 rfl (by decide +kernel) (by decide +kernel) (by decide +kernel) rfl rfl (Imp.sub (by first | ((repeat (first | exact List.nil_sublist _ | apply List.Sublist.cons_cons | apply List.Sublist.cons)); done) | fail)) (g_load rfl (.mk rfl rfl) rfl (rd_pt (.head _) rfl)) ?_
        refine WH.take 4 rfl (by decide +kernel) (by decide +kernel) (by decide +kernel) rfl rfl (Imp.sub (by first | ((repeat (first | exact List.nil_sublist _ | apply List.Sublist.cons_cons | apply List.Sublist.cons)); done) | fail)) (g_move rfl (.mk (v := .int _ _) rfl rfl)) ?_
        refine WH.take 5 rfl (by decide +kernel) (by decide +kernel) (by decide +kernel) rfl rfl (Imp.sub (by first | ((repeat (first | exact List.nil_sublist _ | apply List.Sublist.cons_cons | apply List.Sublist.cons)); done) | fail)) (g_add rfl (.mk rfl rfl) (.mk rfl rfl) hadd) ?_
        refine WH.take 6 rfl (by decide +kernel) (by decide +kernel) (by decide +kernel) rfl rfl (Imp.sub (by first | ((repeat (first | exact List.nil_sublist _ | apply List.Sublist.cons_cons | apply List.Sublist.cons)); done) | fail)) (g_move rfl (.mk (v := .slice _ _ _) rfl rfl)) ?_
        refine WH.take 7 rfl (by decide +kernel) (by decide +kernel) (by decide +kernel) rfl rfl (Imp.sub (by first | ((repeat (first | exact List.nil_sublist _ | apply List.Sublist.cons_cons | apply List.Sublist.cons)); done) | fail)) (g_load rfl (.mk rfl rfl) rfl (rd_pt (.head _) rfl)) ?_
        refine WH.take 8 rfl (by decide +kernel) (by decide +kernel) (by decide +kernel) rfl rfl (Imp.sub (by first | ((repeat (first | exact List.nil_sublist _ | apply List.Sublist.cons_cons | apply List.Sublist.cons)); done) | fail)) (g_move rfl (.mk (v := .int _ _) rfl rfl)) ?_
        refine WH.take 9 rfl (by decide +kernel) (by decide +kernel) (by decide +kernel) rfl rfl (Imp.sub (by first | ((repeat (first | exact List.nil_sublist _ | apply List.Sublist.cons_cons | apply List.Sublist.cons)); done) | fail)) (g_add rfl (.mk rfl rfl) (.mk rfl rfl) hadd) ?_
        refine WH.take 10 rfl (by decide +kernel) (by decide +kernel) (by decide +kernel) rfl rfl (Imp.sub (by first | ((repeat (first | exact List.nil_sublist _ | apply List.Sublist.cons_cons | apply List.Sublist.cons)); done) | fail)) (g_indexAddr (sz := 1) rfl (.mk rfl rfl) (.mk rfl rfl) rfl rfl rfl (by omega) (fun _ _ => hAo)) ?_
        refine WH.take 12 rfl (by decide +kernel) (by decide +kernel) (by decide +kernel) rfl rfl (Imp.sub (by first | ((repeat (first | exact List.nil_sublist _ | apply List.Sublist.cons_cons | apply List.Sublist.cons)); done) | fail)) (g_move rfl (.mk (v := .slice _ _ _) rfl rfl)) ?_
        refine WH.take 13 rfl (by decide +kernel) (by decide +kernel) (by decide +kernel) rfl rfl (Imp.sub (by first | ((repeat (first | exact List.nil_sublist _ | apply List.Sublist.cons_cons | apply List.Sublist.cons)); done) | fail)) (g_load rfl (.mk rfl rfl) rfl (rd_pt (.head _) rfl)) ?_
        refine WH.take 14 rfl (by decide +kernel) (by decide +kernel) (by decide +kernel) rfl rfl (Imp.sub (by first | ((repeat (first | exact List.nil_sublist _ | apply List.Sublist.cons_cons | apply List.Sublist.cons)); done) | fail)) (g_indexAddr (sz := 1) rfl (.mk rfl rfl) (.mk rfl rfl) rfl rfl rfl (by omega) (fun _ _ => hAo)) ?_
        refine WH.two 11 15 (by decide +kernel) rfl rfl rfl rfl ?_ ?_
        refine WL1.give rfl (g_load rfl (.mk rfl rfl) rfl (rd_vec (.tail _ (.head _)) (get1 (by omega)))) ?_
        refine WL.nil ?_
        refine ⟨(Imp.sub (by first | ((repeat (first | exact List.nil_sublist _ | apply List.Sublist.cons_cons | apply List.Sublist.cons)); done) | fail)), ?_⟩
        refine WH.one 15 (by decide +kernel) rfl rfl ?_
        refine WL1.give rfl (g_load rfl (.mk rfl rfl) rfl (rd_vec (.tail _ (.head _)) (get1 (by omega)))) ?_
        refine WL.nil ?_
        refine ⟨(Imp.sub (by first | ((repeat (first | exact List.nil_sublist _ | apply List.Sublist.cons_cons | apply List.Sublist.cons)); done) | fail)), ?_⟩
        refine WH.take 16 rfl (by decide +kernel) (by decide +kernel) (by decide +kernel) rfl rfl (Imp.sub (by first | ((repeat (first | exact List.nil_sublist _ | apply List.Sublist.cons_cons | apply List.Sublist.cons)); done) | fail)) (g_indexAddr (sz := 1) rfl (.mk rfl rfl) (.mk rfl rfl) rfl rfl rfl (by omega) (fun _ _ => hAo)) ?_
        refine WH.one 17 (by decide +kernel) rfl rfl ?_
        refine WL1.storeV1 rfl rfl (.mk rfl rfl) (.mk (v := Row.v _) rfl rfl) rfl rfl (by first | omega | (simp; done) | (simp; omega)) (.tail (.head)) ?_
        refine WL.nil ?_
        refine ⟨(Imp.sub (by first | ((repeat (first | exact List.nil_sublist _ | apply List.Sublist.cons_cons | apply List.Sublist.cons)); done) | fail)), ?_⟩
        refine WH.take 18 rfl (by decide +kernel) (by decide +kernel) (by decide +kernel) rfl rfl (Imp.sub (by first | ((repeat (first | exact List.nil_sublist _ | apply List.Sublist.cons_cons | apply List.Sublist.cons)); done) | fail)) (g_indexAddr (sz := 1) rfl (.mk rfl rfl) (.mk rfl rfl) rfl rfl rfl (by omega) (fun _ _ => hAo)) ?_
        refine WH.one 19 (by decide +kernel) rfl rfl ?_
        refine WL1.storeV1 rfl rfl (.mk rfl rfl) (.mk (v := Row.v _) rfl rfl) rfl rfl (by first | omega | (simp; done) | (simp; omega)) (.tail (.head)) ?_
        refine WL.nil ?_
        refine ⟨(Imp.sub (by first | ((repeat (first | exact List.nil_sublist _ | apply List.Sublist.cons_cons | apply List.Sublist.cons)); done) | fail)), ?_⟩
        refine WH.done (by decide +kernel) ?_
        rotate_left
        refine WL1.give rfl (g_load rfl (.mk rfl rfl) rfl (rd_vec (.tail _ (.head _)) (get1 (by omega)))) ?_
        refine WL.nil ?_
        refine ⟨(Imp.sub (by first | ((repeat (first | exact List.nil_sublist _ | apply List.Sublist.cons_cons | apply List.Sublist.cons)); done) | fail)), ?_⟩
        refine WH.one 11 (by decide +kernel) rfl rfl ?_
        refine WL1.give rfl (g_load rfl (.mk rfl rfl) rfl (rd_vec (.tail _ (.head _)) (get1 (by omega)))) ?_
        refine WL.nil ?_
        refine ⟨(Imp.sub (by first | ((repeat (first | exact List.nil_sublist _ | apply List.Sublist.cons_cons | apply List.Sublist.cons)); done) | fail)), ?_⟩
        refine WH.take 16 rfl (by decide +kernel) (by decide +kernel) (by decide +kernel) rfl rfl (Imp.sub (by first | ((repeat (first | exact List.nil_sublist _ | apply List.Sublist.cons_cons | apply List.Sublist.cons)); done) | fail)) (g_indexAddr (sz := 1) rfl (.mk rfl rfl) (.mk rfl rfl) rfl rfl rfl (by omega) (fun _ _ => hAo)) ?_
        refine WH.one 17 (by decide +kernel) rfl rfl ?_
        refine WL1.storeV1 rfl rfl (.mk rfl rfl) (.mk (v := Row.v _) rfl rfl) rfl rfl (by first | omega | (simp; done) | (simp; omega)) (.tail (.head)) ?_
        refine WL.nil ?_
        refine ⟨(Imp.sub (by first | ((repeat (first | exact List.nil_sublist _ | apply List.Sublist.cons_cons | apply List.Sublist.cons)); done) | fail)), ?_⟩
        refine WH.take 18 rfl (by decide +kernel) (by decide +kernel) (by decide +kernel) rfl rfl (Imp.sub (by first | ((repeat (first | exact List.nil_sublist _ | apply List.Sublist.cons_cons | apply List.Sublist.cons)); done) | fail)) (g_indexAddr (sz := 1) rfl (.mk rfl rfl) (.mk rfl rfl) rfl rfl rfl (by omega) (fun _ _ => hAo)) ?_
        refine WH.one 19 (by decide +kernel) rfl rfl ?_
        refine WL1.storeV1 rfl rfl (.mk rfl rfl) (.mk (v := Row.v _) rfl rfl) rfl rfl (by first | omega | (simp; done) | (simp; omega)) (.tail (.head)) ?_
        refine WL.nil ?_
        refine ⟨(Imp.sub (by first | ((repeat (first | exact List.nil_sublist _ | apply List.Sublist.cons_cons | apply List.Sublist.cons)); done) | fail)), ?_⟩
        refine WH.done (by decide +kernel) ?_
        rotate_left
        rotate_left
        · exact ⟨swpR rs c (c + q), (by repeat (first | with_reducible exact Out.refl _ _ | refine Out.set rfl ?_ | refine Out.put rfl ?_ | refine Out.sets rfl ?_ | refine Out.hav rfl ?_ | exact Out.refl _ _)), trivial, by rw [swpR_v, Nat.mul_one, Nat.mul_one]; exact (Imp.rowsP (swpR_perm (rs := rs) (c := c) (q := c + q) (by omega) (by omega)) (.tail (.tail .head))).trans (Imp.perm perm3), by rw [swpR_len, hrl], by rw [swpR_els (rs := rs) (c := c) (q := c + q) (by omega) (by omega), hre]⟩
        · exact ⟨swpR rs c (c + q), (by repeat (first | with_reducible exact Out.refl _ _ | refine Out.set rfl ?_ | refine Out.put rfl ?_ | refine Out.sets rfl ?_ | refine Out.hav rfl ?_ | exact Out.refl _ _)), trivial, by rw [swpR_v, Nat.mul_one, Nat.mul_one]; exact (Imp.rowsP (swpR_perm (rs := rs) (c := c) (q := c + q) (by omega) (by omega)) (.tail (.tail .head))).trans (Imp.perm perm3), by rw [swpR_len, hrl], by rw [swpR_els (rs := rs) (c := c) (q := c + q) (by omega) (by omega), hre]⟩
        obtain ⟨hrl1, hre1⟩ := hr1
        obtain ⟨a1, ha1⟩ : ∃ a1, a1 = swp a c (c + q) := ⟨_, rfl⟩
        rw [← ha1] at hre1 hpc hsw
        have hrow3 : ∀ p, p < i → (nth r1 p).l.length = 2 * i := fun p hp => by rw [els_row hre1 (by omega)]; exact hsw.shp.2 p hp
        have hpv1 : nth (nth r1 c).l c ≠ 0 := by rw [el_row (by omega), hre1]; exact hpc
        have hrc := hrow3 c hlt
        have hzl : (zrow (2 * i)).length = 2 * i := zrow_len _
        obtain ⟨f, hf⟩ : ∃ f, f = gfused (zrow (2 * i)) (nth r1 c).l (ginv (nth (nth r1 c).l c)) := ⟨_, rfl⟩
        have hfl : f.length = 2 * i := by rw [hf, gfused_length _ _ _ (by omega), hzl]
        have hfn : ∀ (v1 v2 : Value) (w' : World), Sl w' 1 v1 (2 * i) (bvs (zrow (2 * i))) → Sl w' 1 v2 (nth r1 c).l.length (bvs (nth r1 c).l) → Calls Tryz.prog 141 #[v1, v2, bv (ginv (nth (nth r1 c).l c))] w' fun e w2 => ∃ v M, e = .returned v ∧ H w' M w2 ∧ ∃ A cc, v = .tuple #[.slice A (2 * i) cc, iv 0] ∧ M = [vec A (2 * i) cc 5 1 (bvs f)] := fun v1 v2 w' h1 h2 => by
          have := fused_n v1 v2 (zrow (2 * i)) (nth r1 c).l (ginv (nth (nth r1 c).l c)) w' (by rw [hzl]; exact h1) h2 (by omega) (by omega)
          rwa [hzl, ← hf] at this
        have hfa : f = gfused (zrow (2 * i)) (nth a1 c) (ginv (el a1 c c)) := by rw [hf, els_row hre1 (k := c) (by omega)]; rfl
        have hmapl1 : (r1.map Row.v).length = i := by rw [List.length_map, hrl1]
        refine WC.seq fun K hK => ?_
        refine WC.quiet rfl (by kernel_rfl) (by decide +kernel) ?_
        refine WQ.want rfl (WQ1.give rfl (g_move rfl (.mk (v := .slice _ _ _) rfl rfl)) ?_)
        refine WQ.want rfl (WQ1.give rfl (g_load rfl (.mk rfl rfl) rfl (rd_pt (.tail _ (.tail _ (.head _))) rfl)) ?_)
        refine WQ.want rfl (WQ1.give rfl (g_indexAddr (sz := 1) rfl (.mk rfl rfl) (.mk rfl rfl) rfl rfl rfl (by omega) (fun _ _ => hAo)) ?_)
        refine WQ.want rfl (WQ1.give rfl (g_load rfl (.mk rfl rfl) rfl (rd_vec (.head _) (get1 (by omega)))) ?_)
        refine WQ.want rfl (WQ1.give rfl (g_load rfl (.mk rfl rfl) rfl (rd_pt (.tail _ (.tail _ (.head _))) rfl)) ?_)
        refine WQ.want rfl (WQ1.give rfl (g_indexAddr (sz := 1) rfl (.mk rfl rfl) (.mk rfl rfl) rfl rfl rfl (by omega) (rowA_some (.tail _ (.head _)) (by omega) (by omega))) ?_)
        refine WQ.want rfl (WQ1.give rfl (g_load rfl (.mk rfl rfl) rfl (rd_rowA (.tail _ (.head _)) (by omega) (by omega))) ?_)
        refine WQ.want rfl (WQ1.callP rfl rfl rfl (.cons (.mk (v := .int _ _) rfl rfl) .nil) (fun w hw => Calls.belowS (inv_c (nth (nth r1 c).l c) hpv1 w)) ?_)
        refine WQ.want rfl (WQ1.give rfl (g_move rfl (.mk (v := .tuple _) rfl rfl)) ?_)
        refine WQ.want rfl (WQ1.give rfl (g_extract rfl (.mk rfl rfl) rfl) ?_)
        refine WQ.want rfl (WQ1.give rfl (g_extract rfl (.mk rfl rfl) rfl) ?_)
        refine WQ.want rfl (WQ1.give rfl (g_assign rfl (.mk (v := .int _ _) rfl rfl)) ?_)
        refine WQ.want rfl (WQ1.give rfl (g_assign rfl (.mk (v := .int _ _) rfl rfl)) ?_)
        refine WQ.nil ?_
        (refine hK _ _ ?_; clear hK)
        refine WC.seqP (1298034600552449774963827310329856) (fun _ : List Row => []) (fun r2 => [vec Ao r0.length co 99 1 (r2.map Row.v), rowsA r2, pt b8 3 [iv c]]) (fun r2 => r2.length = i ∧ els r2 = nrm a1 (2 * i) c) ?_ (fun r2 V hr2 => ?_)
        refine WC.held [rowsA r1, pt b8 3 [iv c]] rfl (by kernel_rfl) ?_
        refine WH.take 0 rfl (by decide +kernel) (by decide +kernel) (by decide +kernel) rfl rfl (Imp.sub (by first | ((repeat (first | exact List.nil_sublist _ | apply List.Sublist.cons_cons | apply List.Sublist.cons)); done) | fail)) (g_move rfl (.mk (v := .slice _ _ _) rfl rfl)) ?_
        refine WH.take 1 rfl (by decide +kernel) (by decide +kernel) (by decide +kernel) rfl rfl (Imp.sub (by first | ((repeat (first | exact List.nil_sublist _ | apply List.Sublist.cons_cons | apply List.Sublist.cons)); done) | fail)) (g_load rfl (.mk rfl rfl) rfl (rd_pt (.tail _ (.head _)) rfl)) ?_
        refine WH.take 2 rfl (by decide +kernel) (by decide +kernel) (by decide +kernel) rfl rfl (Imp.sub (by first | ((repeat (first | exact List.nil_sublist _ | apply List.Sublist.cons_cons | apply List.Sublist.cons)); done) | fail)) (g_move rfl (.mk (v := .int _ _) rfl rfl)) ?_
        refine WH.take 3 rfl (by decide +kernel) (by decide +kernel) (by decide +kernel) rfl rfl (Imp.sub (by first | ((repeat (first | exact List.nil_sublist _ | apply List.Sublist.cons_cons | apply List.Sublist.cons)); done) | fail)) (g_mul rfl (.mk rfl rfl) (.mk rfl rfl) hmul) ?_
        refine WH.take 5 rfl (by decide +kernel) (by decide +kernel) (by decide +kernel) rfl rfl (Imp.sub (by first | ((repeat (first | exact List.nil_sublist _ | apply List.Sublist.cons_cons | apply List.Sublist.cons)); done) | fail)) (g_move rfl (.mk (v := .slice _ _ _) rfl rfl)) ?_
        refine WH.take 6 rfl (by decide +kernel) (by decide +kernel) (by decide +kernel) rfl rfl (Imp.sub (by first | ((repeat (first | exact List.nil_sublist _ | apply List.Sublist.cons_cons | apply List.Sublist.cons)); done) | fail)) (g_load rfl (.mk rfl rfl) rfl (rd_pt (.tail _ (.head _)) rfl)) ?_
        refine WH.take 7 rfl (by decide +kernel) (by decide +kernel) (by decide +kernel) rfl rfl (Imp.sub (by first | ((repeat (first | exact List.nil_sublist _ | apply List.Sublist.cons_cons | apply List.Sublist.cons)); done) | fail)) (g_indexAddr (sz := 1) rfl (.mk rfl rfl) (.mk rfl rfl) rfl rfl rfl (by omega) (fun _ _ => hAo)) ?_
        refine WH.take 9 rfl (by decide +kernel) (by decide +kernel) (by decide +kernel) rfl rfl (Imp.sub (by first | ((repeat (first | exact List.nil_sublist _ | apply List.Sublist.cons_cons | apply List.Sublist.cons)); done) | fail)) (g_move rfl (.mk (v := .int _ _) rfl rfl)) ?_
        refine WH.two 4 8 (by decide +kernel) rfl rfl rfl rfl ?_ ?_
        refine WL1.make elB rfl rfl (.mk rfl rfl) (.mk rfl rfl) rfl rfl (by omega) (by unfold maxLen; omega) (fun b100 => ?_)
        refine WL.nil ?_
        refine ⟨(Imp.sub (by first | ((repeat (first | exact List.nil_sublist _ | apply List.Sublist.cons_cons | apply List.Sublist.cons)); done) | fail)), ?_⟩
        refine WH.one 8 (by decide +kernel) rfl rfl ?_
        refine WL1.give rfl (g_load rfl (.mk rfl rfl) rfl (rd_vec (.tail _ (.head _)) (get1 (by omega)))) ?_
        refine WL.nil ?_
        refine ⟨(Imp.sub (by first | ((repeat (first | exact List.nil_sublist _ | apply List.Sublist.cons_cons | apply List.Sublist.cons)); done) | fail)), ?_⟩
        refine WH.one 10 (by decide +kernel) rfl rfl ?_
        (refine WL1.callN rfl rfl rfl (.cons (.mk (v := .slice _ _ _) rfl rfl) (.cons (.mk (v := .slice _ _ _) rfl rfl) (.cons (.mk (v := .int _ _) rfl rfl) .nil))) (fun w hw => hfn _ _ w (Sl.of_vecE hw (by repeat (first | exact .head _ | apply List.Mem.tail)) (by omega) ((madeU _).trans (by rw [← hn]; rfl))) (Sl.of_rowA hw (by repeat (first | exact .head _ | apply List.Mem.tail)) (by omega))) ?_; rintro _ _ ⟨Af, cf, rfl, rfl⟩)
        refine WL.nil ?_
        refine ⟨(Imp.sub (by first | ((repeat (first | exact List.nil_sublist _ | apply List.Sublist.cons_cons | apply List.Sublist.cons)); done) | fail)), ?_⟩
        refine WH.take 11 rfl (by decide +kernel) (by decide +kernel) (by decide +kernel) rfl rfl (Imp.sub (by first | ((repeat (first | exact List.nil_sublist _ | apply List.Sublist.cons_cons | apply List.Sublist.cons)); done) | fail)) (g_move rfl (.mk (v := .tuple _) rfl rfl)) ?_
        refine WH.take 12 rfl (by decide +kernel) (by decide +kernel) (by decide +kernel) rfl rfl (Imp.sub (by first | ((repeat (first | exact List.nil_sublist _ | apply List.Sublist.cons_cons | apply List.Sublist.cons)); done) | fail)) (g_extract rfl (.mk rfl rfl) rfl) ?_
        refine WH.take 13 rfl (by decide +kernel) (by decide +kernel) (by decide +kernel) rfl rfl (Imp.sub (by first | ((repeat (first | exact List.nil_sublist _ | apply List.Sublist.cons_cons | apply List.Sublist.cons)); done) | fail)) (g_extract rfl (.mk rfl rfl) rfl) ?_
        refine WH.take 14 rfl (by decide +kernel) (by decide +kernel) (by decide +kernel) rfl rfl (Imp.sub (by first | ((repeat (first | exact List.nil_sublist _ | apply List.Sublist.cons_cons | apply List.Sublist.cons)); done) | fail)) (g_indexAddr (sz := 1) rfl (.mk rfl rfl) (.mk rfl rfl) rfl rfl rfl (by omega) (fun _ _ => hAo)) ?_
        refine WH.one 15 (by decide +kernel) rfl rfl ?_
        refine WL1.storeV1 rfl rfl (.mk rfl rfl) (.mk (v := .slice _ _ _) rfl rfl) rfl rfl (by first | omega | (simp; done) | (simp; omega)) (.tail (.tail (.head))) ?_
        refine WL.nil ?_
        refine ⟨(Imp.sub (by first | ((repeat (first | exact List.nil_sublist _ | apply List.Sublist.cons_cons | apply List.Sublist.cons)); done) | fail)), ?_⟩
        refine WH.done (by decide +kernel) ?_
        rotate_left
        refine WL1.give rfl (g_load rfl (.mk rfl rfl) rfl (rd_vec (.head _) (get1 (by omega)))) ?_
        refine WL.nil ?_
        refine ⟨(Imp.sub (by first | ((repeat (first | exact List.nil_sublist _ | apply List.Sublist.cons_cons | apply List.Sublist.cons)); done) | fail)), ?_⟩
        refine WH.one 4 (by decide +kernel) rfl rfl ?_
        refine WL1.make elB rfl rfl (.mk rfl rfl) (.mk rfl rfl) rfl rfl (by omega) (by unfold maxLen; omega) (fun b100 => ?_)
        refine WL.nil ?_
        refine ⟨(Imp.sub (by first | ((repeat (first | exact List.nil_sublist _ | apply List.Sublist.cons_cons | apply List.Sublist.cons)); done) | fail)), ?_⟩
        refine WH.one 10 (by decide +kernel) rfl rfl ?_
        (refine WL1.callN rfl rfl rfl (.cons (.mk (v := .slice _ _ _) rfl rfl) (.cons (.mk (v := .slice _ _ _) rfl rfl) (.cons (.mk (v := .int _ _) rfl rfl) .nil))) (fun w hw => hfn _ _ w (Sl.of_vecE hw (by repeat (first | exact .head _ | apply List.Mem.tail)) (by omega) ((madeU _).trans (by rw [← hn]; rfl))) (Sl.of_rowA hw (by repeat (first | exact .head _ | apply List.Mem.tail)) (by omega))) ?_; rintro _ _ ⟨Af, cf, rfl, rfl⟩)
        refine WL.nil ?_
        refine ⟨(Imp.sub (by first | ((repeat (first | exact List.nil_sublist _ | apply List.Sublist.cons_cons | apply List.Sublist.cons)); done) | fail)), ?_⟩
        refine WH.take 11 rfl (by decide +kernel) (by decide +kernel) (by decide +kernel) rfl rfl (Imp.sub (by first | ((repeat (first | exact List.nil_sublist _ | apply List.Sublist.cons_cons | apply List.Sublist.cons)); done) | fail)) (g_move rfl (.mk (v := .tuple _) rfl rfl)) ?_
        refine WH.take 12 rfl (by decide +kernel) (by decide +kernel) (by decide +kernel) rfl rfl (Imp.sub (by first | ((repeat (first | exact List.nil_sublist _ | apply List.Sublist.cons_cons | apply List.Sublist.cons)); done) | fail)) (g_extract rfl (.mk rfl rfl) rfl) ?_
        refine WH.take 13 rfl (by decide +kernel) (by decide +kernel) (by decide +kernel) rfl rfl (Imp.sub (by first | ((repeat (first | exact List.nil_sublist _ | apply List.Sublist.cons_cons | apply List.Sublist.cons)); done) | fail)) (g_extract rfl (.mk rfl rfl) rfl) ?_
        refine WH.take 14 rfl (by decide +kernel) (by decide +kernel) (by decide +kernel) rfl rfl (Imp.sub (by first | ((repeat (first | exact List.nil_sublist _ | apply List.Sublist.cons_cons | apply List.Sublist.cons)); done) | fail)) (g_indexAddr (sz := 1) rfl (.mk rfl rfl) (.mk rfl rfl) rfl rfl rfl (by omega) (fun _ _ => hAo)) ?_
        refine WH.one 15 (by decide +kernel) rfl rfl ?_
        refine WL1.storeV1 rfl rfl (.mk rfl rfl) (.mk (v := .slice _ _ _) rfl rfl) rfl rfl (by first | omega | (simp; done) | (simp; omega)) (.tail (.tail (.head))) ?_
        refine WL.nil ?_
        refine ⟨(Imp.sub (by first | ((repeat (first | exact List.nil_sublist _ | apply List.Sublist.cons_cons | apply List.Sublist.cons)); done) | fail)), ?_⟩
        refine WH.done (by decide +kernel) ?_
        rotate_left
        rotate_left
        · refine ⟨r1.set c ⟨Af, cf, f⟩, (by repeat (first | with_reducible exact Out.refl _ _ | refine Out.set rfl ?_ | refine Out.put rfl ?_ | refine Out.sets rfl ?_ | refine Out.hav rfl ?_ | exact Out.refl _ _)), trivial, ?_, by rw [List.length_set, hrl1], by rw [els_set, hre1, hfa]; rfl⟩
          rw [rowsv_set, Nat.mul_one c, v_of hfl, own_of hfl]
          refine Imp.trans (Imp.put2 (rs := r1) (k := c) (r := ⟨Af, cf, f⟩) (by repeat (first | exact .head | apply Take.tail)) (by repeat (first | exact .head | apply Swap.tail)) (by omega)) ?_
          exact Imp.sub (by repeat (first | exact List.nil_sublist _ | apply List.Sublist.cons_cons | apply List.Sublist.cons))
        · refine ⟨r1.set c ⟨Af, cf, f⟩, (by repeat (first | with_reducible exact Out.refl _ _ | refine Out.set rfl ?_ | refine Out.put rfl ?_ | refine Out.sets rfl ?_ | refine Out.hav rfl ?_ | exact Out.refl _ _)), trivial, ?_, by rw [List.length_set, hrl1], by rw [els_set, hre1, hfa]; rfl⟩
          rw [rowsv_set, Nat.mul_one c, v_of hfl, own_of hfl]
          refine Imp.trans (Imp.put2 (rs := r1) (k := c) (r := ⟨Af, cf, f⟩) (by repeat (first | exact .head | apply Take.tail)) (by repeat (first | exact .head | apply Swap.tail)) (by omega)) ?_
          exact Imp.sub (by repeat (first | exact List.nil_sublist _ | apply List.Sublist.cons_cons | apply List.Sublist.cons))
        obtain ⟨hrl2, hre2⟩ := hr2
        obtain ⟨a2, ha2⟩ : ∃ a2, a2 = nrm a1 (2 * i) c := ⟨_, rfl⟩
        rw [← ha2] at hre2
        have hs2 : Shp a2 i (2 * i) := by rw [ha2]; exact nrm_shp hsw.shp hlt
        have hst : elm a2 i c i = stp a i c q := by rw [ha2, ha1]; rfl
        refine WC.seq fun K hK => ?_
        refine WC.region rfl ?_
        refine wMS rfl rfl rfl rfl rfl ?_
        refine wG rfl rfl (g_len rfl (.mk rfl rfl) rfl) ?_
        refine wMI rfl rfl rfl rfl rfl ?_
        refine WL.nil (hK _ _ ?_); clear hK
        refine WC.block ?_
        refine WC.loopI2 (2787593144624031034157137155550548859031552) (fun (j : Nat) (r3 : List Row) => [(112, iv j)]) (fun j r3 => [vec Ao r0.length co 99 1 (r3.map Row.v), rowsA r3, pt b8 3 [iv c]]) (fun j r3 => j ≤ i ∧ r3.length = i ∧ els r3 = elm a2 i c j) (fun j _ => i - j) 0 r2 ⟨rfl, trivial⟩ (.refl _) ⟨by omega, hrl2, by rw [hre2, elm_zero hs2.1]⟩ ?_
        rintro j r3 U3 ⟨hj, hrl3, hre3⟩
        have hrow4 : ∀ p, p < i → (nth r3 p).l.length = 2 * i := fun p hp => by rw [els_row hre3 (by omega)]; exact (elm_shp hs2 hlt).2 p hp
        by_cases hlt3 : j < i
        · by_cases hjc : j = c
          · refine WC.seq fun K hK => ?_
            refine WC.region rfl ?_
            refine wG rfl rfl (g_lt rfl (.mk rfl rfl) (.mk rfl rfl) (decide_eq_true (by omega))) ?_
            refine WL.nil (hK _ _ ?_); clear hK
            refine WC.seq fun K hK => ?_
            refine WC.cond_true (.mk rfl rfl) ?_
            refine WC.skip ?_
            (refine hK _ _ ?_; clear hK)
            refine WC.seq fun K hK => ?_
            refine WC.block ?_
            refine WC.seq fun K hK => ?_
            refine WC.region rfl ?_
            refine wMI rfl rfl rfl rfl rfl ?_
            refine wAI rfl rfl rfl rfl rfl ?_
            refine WL.nil (hK _ _ ?_); clear hK
            refine WC.seq fun K hK => ?_
            refine WC.region rfl ?_
            refine wMI rfl rfl rfl rfl rfl ?_
            refine wG rfl rfl (g_load rfl (.mk rfl rfl) rfl (rd_pt (.tail _ (.tail _ (.head _))) rfl)) ?_
            refine wG rfl rfl (g_ne rfl (.mk rfl rfl) (.mk rfl rfl) (decide_eq_false (by omega))) ?_
            refine WL.nil (hK _ _ ?_); clear hK
            refine WC.cond_false (.mk rfl rfl) ?_
            refine WC.skip ?_
            (refine hK _ _ ?_; clear hK)
            refine WC.region rfl ?_
            refine wG rfl rfl (g_add rfl (.mk rfl rfl) (.mk rfl rfl) (IntWalk.i64_in _ (by omega))) ?_
            refine wMI rfl rfl rfl rfl rfl ?_
            refine WL.nil ?_
            exact ⟨j + 1, r3, (by repeat (first | with_reducible exact Out.refl _ _ | refine Out.set rfl ?_ | refine Out.put rfl ?_ | refine Out.sets rfl ?_ | refine Out.hav rfl ?_ | exact Out.refl _ _)), ⟨rfl, trivial⟩, .refl _, ⟨by omega, hrl3, by rw [hre3]; exact elm_skip hjc⟩, by omega⟩
          · have hc1 : (r3.map Row.v)[c * 1]? = some (nth r3 c).v := get1 (by omega)
            have hc2 : ∀ x, ((r3.map Row.v).set (j * 1) x)[c * 1]? = some (nth r3 c).v := fun x => by rw [List.getElem?_set_ne (by omega)]; exact hc1
            have hrj := hrow4 j hlt3
            have hrcc := hrow4 c hlt
            obtain ⟨f, hf⟩ : ∃ f, f = gfused (nth r3 j).l (nth r3 c).l (nth (nth r3 j).l c) := ⟨_, rfl⟩
            have hfl : f.length = (nth r3 j).l.length := by rw [hf, gfused_length _ _ _ (by omega)]
            have hfa : f = gfused (nth a2 j) (nth a2 c) (el a2 j c) := by
              have e1 : (nth r3 j).l = nth a2 j := by rw [els_row hre3 (by omega), elm_row hlt3, if_neg (by omega)]
              have e2 : (nth r3 c).l = nth a2 c := by rw [els_row hre3 (by omega), elm_row hlt, if_neg (by omega)]
              rw [hf, e1, e2]; rfl
            have hfn : ∀ (v1 v2 : Value) (w' : World), Sl w' 1 v1 (nth r3 j).l.length (bvs (nth r3 j).l) → Sl w' 1 v2 (nth r3 c).l.length (bvs (nth r3 c).l) → Calls Tryz.prog 141 #[v1, v2, bv (nth (nth r3 j).l c)] w' fun e w2 => ∃ v M, e = .returned v ∧ H w' M w2 ∧ ∃ A cc, v = .tuple #[.slice A (nth r3 j).l.length cc, iv 0] ∧ M = [vec A (nth r3 j).l.length cc 5 1 (bvs f)] := fun v1 v2 w' h1 h2 => by
              have := fused_n v1 v2 (nth r3 j).l (nth r3 c).l (nth (nth r3 j).l c) w' h1 h2 (by omega) (by omega)
              rwa [← hf] at this
            have hmapl3 : (r3.map Row.v).length = i := by rw [List.length_map, hrl3]
            refine WC.seq fun K hK => ?_
            refine WC.region rfl ?_
            refine wG rfl rfl (g_lt rfl (.mk rfl rfl) (.mk rfl rfl) (decide_eq_true (by omega))) ?_
            refine WL.nil (hK _ _ ?_); clear hK
            refine WC.seq fun K hK => ?_
            refine WC.cond_true (.mk rfl rfl) ?_
            refine WC.skip ?_
            (refine hK _ _ ?_; clear hK)
            refine WC.seq fun K hK => ?_
            refine WC.block ?_
            refine WC.seq fun K hK => ?_
            refine WC.region rfl ?_
            refine wMI rfl rfl rfl rfl rfl ?_
            refine wAI rfl rfl rfl rfl rfl ?_
            refine WL.nil (hK _ _ ?_); clear hK
            refine WC.seq fun K hK => ?_
            refine WC.region rfl ?_
            refine wMI rfl rfl rfl rfl rfl ?_
            refine wG rfl rfl (g_load rfl (.mk rfl rfl) rfl (rd_pt (.tail _ (.tail _ (.head _))) rfl)) ?_
            refine wG rfl rfl (g_ne rfl (.mk rfl rfl) (.mk rfl rfl) (decide_eq_true (by omega))) ?_
            refine WL.nil (hK _ _ ?_); clear hK
            refine WC.cond_true (.mk rfl rfl) ?_
            refine WC.held [cellA Ao (c * 1) (nth r3 c).v, rowsA r3, pt b8 3 [iv c]] rfl (by kernel_rfl) ?_
            refine WH.take 0 rfl (by decide +kernel) (by decide +kernel) (by decide +kernel) rfl rfl (by repeat (first | exact Imp.nil _ | apply Imp.cons | (refine Imp.cellc (by first | exact hc1 | exact hc2 _) ?_) | apply Imp.skip)) (g_move rfl (.mk (v := .slice _ _ _) rfl rfl)) ?_
            refine WH.take 1 rfl (by decide +kernel) (by decide +kernel) (by decide +kernel) rfl rfl (by repeat (first | exact Imp.nil _ | apply Imp.cons | (refine Imp.cellc (by first | exact hc1 | exact hc2 _) ?_) | apply Imp.skip)) (g_move rfl (.mk (v := .int _ _) rfl rfl)) ?_
            refine WH.take 2 rfl (by decide +kernel) (by decide +kernel) (by decide +kernel) rfl rfl (by repeat (first | exact Imp.nil _ | apply Imp.cons | (refine Imp.cellc (by first | exact hc1 | exact hc2 _) ?_) | apply Imp.skip)) (g_move rfl (.mk (v := .slice _ _ _) rfl rfl)) ?_
            refine WH.take 3 rfl (by decide +kernel) (by decide +kernel) (by decide +kernel) rfl rfl (by repeat (first | exact Imp.nil _ | apply Imp.cons | (refine Imp.cellc (by first | exact hc1 | exact hc2 _) ?_) | apply Imp.skip)) (g_move rfl (.mk (v := .int _ _) rfl rfl)) ?_
            refine WH.take 4 rfl (by decide +kernel) (by decide +kernel) (by decide +kernel) rfl rfl (by repeat (first | exact Imp.nil _ | apply Imp.cons | (refine Imp.cellc (by first | exact hc1 | exact hc2 _) ?_) | apply Imp.skip)) (g_indexAddr (sz := 1) rfl (.mk rfl rfl) (.mk rfl rfl) rfl rfl rfl (by omega) (fun _ _ => hAo)) ?_
            refine WH.take 6 rfl (by decide +kernel) (by decide +kernel) (by decide +kernel) rfl rfl (by repeat (first | exact Imp.nil _ | apply Imp.cons | (refine Imp.cellc (by first | exact hc1 | exact hc2 _) ?_) | apply Imp.skip)) (g_move rfl (.mk (v := .slice _ _ _) rfl rfl)) ?_
            refine WH.take 7 rfl (by decide +kernel) (by decide +kernel) (by decide +kernel) rfl rfl (by repeat (first | exact Imp.nil _ | apply Imp.cons | (refine Imp.cellc (by first | exact hc1 | exact hc2 _) ?_) | apply Imp.skip)) (g_load rfl (.mk rfl rfl) rfl (rd_pt (.tail _ (.tail _ (.head _))) rfl)) ?_
            refine WH.take 8 rfl (by decide +kernel) (by decide +kernel) (by decide +kernel) rfl rfl (by repeat (first | exact Imp.nil _ | apply Imp.cons | (refine Imp.cellc (by first | exact hc1 | exact hc2 _) ?_) | apply Imp.skip)) (g_indexAddr (sz := 1) rfl (.mk rfl rfl) (.mk rfl rfl) rfl rfl rfl (by omega) (fun _ _ => hAo)) ?_
            refine WH.take 9 rfl (by decide +kernel) (by decide +kernel) (by decide +kernel) rfl rfl (by repeat (first | exact Imp.nil _ | apply Imp.cons | (refine Imp.cellc (by first | exact hc1 | exact hc2 _) ?_) | apply Imp.skip)) (g_load rfl (.mk rfl rfl) rfl (rd_cellA (.head _))) ?_
            refine WH.take 10 rfl (by decide +kernel) (by decide +kernel) (by decide +kernel) rfl rfl (by repeat (first | exact Imp.nil _ | apply Imp.cons | (refine Imp.cellc (by first | exact hc1 | exact hc2 _) ?_) | apply Imp.skip)) (g_move rfl (.mk (v := .slice _ _ _) rfl rfl)) ?_
            refine WH.take 11 rfl (by decide +kernel) (by decide +kernel) (by decide +kernel) rfl rfl (by repeat (first | exact Imp.nil _ | apply Imp.cons | (refine Imp.cellc (by first | exact hc1 | exact hc2 _) ?_) | apply Imp.skip)) (g_move rfl (.mk (v := .int _ _) rfl rfl)) ?_
            refine WH.take 12 rfl (by decide +kernel) (by decide +kernel) (by decide +kernel) rfl rfl (by repeat (first | exact Imp.nil _ | apply Imp.cons | (refine Imp.cellc (by first | exact hc1 | exact hc2 _) ?_) | apply Imp.skip)) (g_indexAddr (sz := 1) rfl (.mk rfl rfl) (.mk rfl rfl) rfl rfl rfl (by omega) (fun _ _ => hAo)) ?_
            refine WH.take 14 rfl (by decide +kernel) (by decide +kernel) (by decide +kernel) rfl rfl (by repeat (first | exact Imp.nil _ | apply Imp.cons | (refine Imp.cellc (by first | exact hc1 | exact hc2 _) ?_) | apply Imp.skip)) (g_load rfl (.mk rfl rfl) rfl (rd_pt (.tail _ (.tail _ (.head _))) rfl)) ?_
            refine WH.two 5 13 (by decide +kernel) rfl rfl rfl rfl ?_ ?_
            refine WL1.give rfl (g_load rfl (.mk rfl rfl) rfl (rd_vec (.head _) (get1 (by omega)))) ?_
            refine WL.nil ?_
            refine ⟨(by repeat (first | exact Imp.nil _ | apply Imp.cons | (refine Imp.cellc (by first | exact hc1 | exact hc2 _) ?_) | apply Imp.skip)), ?_⟩
            refine WH.one 13 (by decide +kernel) rfl rfl ?_
            refine WL1.give rfl (g_load rfl (.mk rfl rfl) rfl (rd_vec (.head _) (get1 (by omega)))) ?_
            refine WL.nil ?_
            refine ⟨(by repeat (first | exact Imp.nil _ | apply Imp.cons | (refine Imp.cellc (by first | exact hc1 | exact hc2 _) ?_) | apply Imp.skip)), ?_⟩
            refine WH.take 15 rfl (by decide +kernel) (by decide +kernel) (by decide +kernel) rfl rfl (by repeat (first | exact Imp.nil _ | apply Imp.cons | (refine Imp.cellc (by first | exact hc1 | exact hc2 _) ?_) | apply Imp.skip)) (g_indexAddr (sz := 1) rfl (.mk rfl rfl) (.mk rfl rfl) rfl rfl rfl (by omega) (rowA_some (.tail _ (.head _)) (by omega) (by omega))) ?_
            refine WH.take 16 rfl (by decide +kernel) (by decide +kernel) (by decide +kernel) rfl rfl (by repeat (first | exact Imp.nil _ | apply Imp.cons | (refine Imp.cellc (by first | exact hc1 | exact hc2 _) ?_) | apply Imp.skip)) (g_load rfl (.mk rfl rfl) rfl (rd_rowA (.tail _ (.head _)) (by omega) (by omega))) ?_
            refine WH.one 17 (by decide +kernel) rfl rfl ?_
            (refine WL1.callN rfl rfl rfl (.cons (.mk (v := .slice _ _ _) rfl rfl) (.cons (.mk (v := .slice _ _ _) rfl rfl) (.cons (.mk (v := .int _ _) rfl rfl) .nil))) (fun w hw => hfn _ _ w (Sl.of_rowA hw (by repeat (first | exact .head _ | apply List.Mem.tail)) (by omega)) (Sl.of_rowA hw (by repeat (first | exact .head _ | apply List.Mem.tail)) (by omega))) ?_; rintro _ _ ⟨Af, cf, rfl, rfl⟩)
            refine WL.nil ?_
            refine ⟨(by repeat (first | exact Imp.nil _ | apply Imp.cons | (refine Imp.cellc (by first | exact hc1 | exact hc2 _) ?_) | apply Imp.skip)), ?_⟩
            refine WH.take 18 rfl (by decide +kernel) (by decide +kernel) (by decide +kernel) rfl rfl (by repeat (first | exact Imp.nil _ | apply Imp.cons | (refine Imp.cellc (by first | exact hc1 | exact hc2 _) ?_) | apply Imp.skip)) (g_move rfl (.mk (v := .tuple _) rfl rfl)) ?_
            refine WH.take 19 rfl (by decide +kernel) (by decide +kernel) (by decide +kernel) rfl rfl (by repeat (first | exact Imp.nil _ | apply Imp.cons | (refine Imp.cellc (by first | exact hc1 | exact hc2 _) ?_) | apply Imp.skip)) (g_extract rfl (.mk rfl rfl) rfl) ?_
            refine WH.take 20 rfl (by decide +kernel) (by decide +kernel) (by decide +kernel) rfl rfl (by repeat (first | exact Imp.nil _ | apply Imp.cons | (refine Imp.cellc (by first | exact hc1 | exact hc2 _) ?_) | apply Imp.skip)) (g_extract rfl (.mk rfl rfl) rfl) ?_
            refine WH.take 21 rfl (by decide +kernel) (by decide +kernel) (by decide +kernel) rfl rfl (by repeat (first | exact Imp.nil _ | apply Imp.cons | (refine Imp.cellc (by first | exact hc1 | exact hc2 _) ?_) | apply Imp.skip)) (g_indexAddr (sz := 1) rfl (.mk rfl rfl) (.mk rfl rfl) rfl rfl rfl (by omega) (fun _ _ => hAo)) ?_
            refine WH.one 22 (by decide +kernel) rfl rfl ?_
            refine WL1.storeV1 rfl rfl (.mk rfl rfl) (.mk (v := .slice _ _ _) rfl rfl) rfl rfl (by first | omega | (simp; done) | (simp; omega)) (.tail (.head)) ?_
            refine WL.nil ?_
            refine ⟨(by repeat (first | exact Imp.nil _ | apply Imp.cons | (refine Imp.cellc (by first | exact hc1 | exact hc2 _) ?_) | apply Imp.skip)), ?_⟩
            refine WH.done (by decide +kernel) ?_
            (refine hK _ _ ?_; clear hK)
            refine WC.region rfl ?_
            refine wG rfl rfl (g_add rfl (.mk rfl rfl) (.mk rfl rfl) (IntWalk.i64_in _ (by omega))) ?_
            refine wMI rfl rfl rfl rfl rfl ?_
            refine WL.nil ?_
            rotate_left
            refine WL1.give rfl (g_load rfl (.mk rfl rfl) rfl (rd_vec (.head _) (get1 (by omega)))) ?_
            refine WL.nil ?_
            refine ⟨(by repeat (first | exact Imp.nil _ | apply Imp.cons | (refine Imp.cellc (by first | exact hc1 | exact hc2 _) ?_) | apply Imp.skip)), ?_⟩
            refine WH.take 15 rfl (by decide +kernel) (by decide +kernel) (by decide +kernel) rfl rfl (by repeat (first | exact Imp.nil _ | apply Imp.cons | (refine Imp.cellc (by first | exact hc1 | exact hc2 _) ?_) | apply Imp.skip)) (g_indexAddr (sz := 1) rfl (.mk rfl rfl) (.mk rfl rfl) rfl rfl rfl (by omega) (rowA_some (.tail _ (.head _)) (by omega) (by omega))) ?_
            refine WH.take 16 rfl (by decide +kernel) (by decide +kernel) (by decide +kernel) rfl rfl (by repeat (first | exact Imp.nil _ | apply Imp.cons | (refine Imp.cellc (by first | exact hc1 | exact hc2 _) ?_) | apply Imp.skip)) (g_load rfl (.mk rfl rfl) rfl (rd_rowA (.tail _ (.head _)) (by omega) (by omega))) ?_
            refine WH.one 5 (by decide +kernel) rfl rfl ?_
            refine WL1.give rfl (g_load rfl (.mk rfl rfl) rfl (rd_vec (.head _) (get1 (by omega)))) ?_
            refine WL.nil ?_
            refine ⟨(by repeat (first | exact Imp.nil _ | apply Imp.cons | (refine Imp.cellc (by first | exact hc1 | exact hc2 _) ?_) | apply Imp.skip)), ?_⟩
            refine WH.one 17 (by decide +kernel) rfl rfl ?_
            (refine WL1.callN rfl rfl rfl (.cons (.mk (v := .slice _ _ _) rfl rfl) (.cons (.mk (v := .slice _ _ _) rfl rfl) (.cons (.mk (v := .int _ _) rfl rfl) .nil))) (fun w hw => hfn _ _ w (Sl.of_rowA hw (by repeat (first | exact .head _ | apply List.Mem.tail)) (by omega)) (Sl.of_rowA hw (by repeat (first | exact .head _ | apply List.Mem.tail)) (by omega))) ?_; rintro _ _ ⟨Af, cf, rfl, rfl⟩)
            refine WL.nil ?_
            refine ⟨(by repeat (first | exact Imp.nil _ | apply Imp.cons | (refine Imp.cellc (by first | exact hc1 | exact hc2 _) ?_) | apply Imp.skip)), ?_⟩
            refine WH.take 18 rfl (by decide +kernel) (by decide +kernel) (by decide +kernel) rfl rfl (by repeat (first | exact Imp.nil _ | apply Imp.cons | (refine Imp.cellc (by first | exact hc1 | exact hc2 _) ?_) | apply Imp.skip)) (g_move rfl (.mk (v := .tuple _) rfl rfl)) ?_
            refine WH.take 19 rfl (by decide +kernel) (by decide +kernel) (by decide +kernel) rfl rfl (by repeat (first | exact Imp.nil _ | apply Imp.cons | (refine Imp.cellc (by first | exact hc1 | exact hc2 _) ?_) | apply Imp.skip)) (g_extract rfl (.mk rfl rfl) rfl) ?_
            refine WH.take 20 rfl (by decide +kernel) (by decide +kernel) (by decide +kernel) rfl rfl (by repeat (first | exact Imp.nil _ | apply Imp.cons | (refine Imp.cellc (by first | exact hc1 | exact hc2 _) ?_) | apply Imp.skip)) (g_extract rfl (.mk rfl rfl) rfl) ?_
            refine WH.take 21 rfl (by decide +kernel) (by decide +kernel) (by decide +kernel) rfl rfl (by repeat (first | exact Imp.nil _ | apply Imp.cons | (refine Imp.cellc (by first | exact hc1 | exact hc2 _) ?_) | apply Imp.skip)) (g_indexAddr (sz := 1) rfl (.mk rfl rfl) (.mk rfl rfl) rfl rfl rfl (by omega) (fun _ _ => hAo)) ?_
            refine WH.one 22 (by decide +kernel) rfl rfl ?_
            refine WL1.storeV1 rfl rfl (.mk rfl rfl) (.mk (v := .slice _ _ _) rfl rfl) rfl rfl (by first | omega | (simp; done) | (simp; omega)) (.tail (.head)) ?_
            refine WL.nil ?_
            refine ⟨(by repeat (first | exact Imp.nil _ | apply Imp.cons | (refine Imp.cellc (by first | exact hc1 | exact hc2 _) ?_) | apply Imp.skip)), ?_⟩
            refine WH.done (by decide +kernel) ?_
            (refine hK _ _ ?_; clear hK)
            refine WC.region rfl ?_
            refine wG rfl rfl (g_add rfl (.mk rfl rfl) (.mk rfl rfl) (IntWalk.i64_in _ (by omega))) ?_
            refine wMI rfl rfl rfl rfl rfl ?_
            refine WL.nil ?_
            rotate_left
            · refine ⟨j + 1, r3.set j ⟨Af, cf, f⟩, (by repeat (first | with_reducible exact Out.refl _ _ | refine Out.set rfl ?_ | refine Out.put rfl ?_ | refine Out.sets rfl ?_ | refine Out.hav rfl ?_ | exact Out.refl _ _)), ⟨rfl, trivial⟩, ?_, ⟨by omega, by rw [List.length_set, hrl3], by rw [els_set, hre3, hfa]; exact elm_set hlt3 hjc⟩, by omega⟩
              rw [rowsv_set, Nat.mul_one j, v_of hfl, own_of hfl]
              exact Imp.put2 (by repeat (first | exact .head | apply Take.tail)) (by repeat (first | exact .head | apply Swap.tail)) (by omega)
            · refine ⟨j + 1, r3.set j ⟨Af, cf, f⟩, (by repeat (first | with_reducible exact Out.refl _ _ | refine Out.set rfl ?_ | refine Out.put rfl ?_ | refine Out.sets rfl ?_ | refine Out.hav rfl ?_ | exact Out.refl _ _)), ⟨rfl, trivial⟩, ?_, ⟨by omega, by rw [List.length_set, hrl3], by rw [els_set, hre3, hfa]; exact elm_set hlt3 hjc⟩, by omega⟩
              rw [rowsv_set, Nat.mul_one j, v_of hfl, own_of hfl]
              exact Imp.put2 (by repeat (first | exact .head | apply Take.tail)) (by repeat (first | exact .head | apply Swap.tail)) (by omega)
        · obtain rfl : j = i := by omega
          refine WC.seq fun K hK => ?_
          refine WC.region rfl ?_
          refine wG rfl rfl (g_lt rfl (.mk rfl rfl) (.mk rfl rfl) (decide_eq_false (by omega))) ?_
          refine WL.nil (hK _ _ ?_); clear hK
          refine WC.seq fun K hK => ?_
          refine WC.cond_false (.mk rfl rfl) ?_
          refine WC.exit ?_
          (clear hK; refine hK _ _ ?_; clear hK)
          refine WC.region rfl ?_
          refine wG rfl rfl (g_add rfl (.mk rfl rfl) (.mk rfl rfl) (IntWalk.i64_in _ (by omega))) ?_
          refine wMI rfl rfl rfl rfl rfl ?_
          refine WL.nil ?_
          exact ⟨c + 1, stp a j c q, r3, (by repeat (first | with_reducible exact Out.refl _ _ | refine Out.set rfl ?_ | refine Out.put rfl ?_ | refine Out.sets rfl ?_ | refine Out.hav rfl ?_ | exact Out.refl _ _)), ⟨rfl, trivial⟩, Imp.sub (.cons_cons _ (.cons_cons _ (.cons _ (.refl _)))), ⟨by omega, hrl3, by rw [hre3, hst], hI2, hgj⟩, by omega⟩
    · obtain rfl : c = i := by omega
      subst hn
      obtain ⟨N, hN⟩ : ∃ N, N = ra.length := ⟨_, rfl⟩
      have hfin : gjr ra.length ra.length (aug m ra.length) = some a := by rw [hgj, Nat.sub_self]; rfl
      have hvv : invM (els ra) = some (a.map (List.drop ra.length)) := by rw [hinv, hfin]; rfl
      have hrow2 : ∀ q, q < ra.length → (nth rs q).l.length = 2 * ra.length := fun q hq => by rw [els_row hre (by omega)]; exact hI.shp.2 q hq
      have hal : (a.map (List.drop ra.length)).length = ra.length := by rw [List.length_map, hI.shp.1]
      refine WC.seq fun K hK => ?_
      refine WC.region rfl ?_
      refine wG rfl rfl (g_lt rfl (.mk rfl rfl) (.mk rfl rfl) (decide_eq_false (by omega))) ?_
      refine WL.nil (hK _ _ ?_); clear hK
      refine WC.seq fun K hK => ?_
      refine WC.cond_false (.mk rfl rfl) ?_
      refine WC.exit ?_
      (clear hK; refine hK _ _ ?_; clear hK)
      refine WC.seq fun K hK => ?_
      refine WC.region rfl ?_
      refine wMI rfl rfl rfl rfl rfl ?_
      refine WL.want rfl (WL1.make elR rfl rfl (.mk rfl rfl) (.mk rfl rfl) rfl rfl (by omega) (by unfold maxLen; omega) (fun b143 => ?_))
      refine wAS rfl rfl rfl rfl rfl ?_
      refine WL.nil (hK _ _ ?_); clear hK
      refine WC.seq fun K hK => ?_
      refine WC.seq fun K hK => ?_
      refine WC.region rfl ?_
      refine wMS rfl rfl rfl rfl rfl ?_
      refine wG rfl rfl (g_len rfl (.mk rfl rfl) rfl) ?_
      refine wMI rfl rfl rfl rfl rfl ?_
      refine WL.nil (hK _ _ ?_); clear hK
      refine WC.block ?_
      refine WC.loopI2 (1461412434350108795711118689843192426209908637696) (fun (k : Nat) (ro : List Row) => [(146, iv k)]) (fun k ro => [rowsA ro, vec (some ⟨b143, 0, none⟩) ra.length ra.length 99 1 (ro.map Row.v ++ List.replicate (ra.length - k) (Value.slice none 0 0)), vec Ao r0.length co 99 1 (rs.map Row.v), rowsA rs]) (fun k ro => k ≤ ra.length ∧ ro.length = k ∧ els ro = (a.map (List.drop ra.length)).take k) (fun k _ => ra.length - k) 0 [] ⟨rfl, trivial⟩ ?_ ⟨by omega, rfl, rfl⟩ ?_
      · rw [show (Value.slice none 0 0).cells = #[.slice none 0 0] from rfl, made_one]
        exact Imp.rows_nil _
      · rintro k ro U5 ⟨hk, hkl, hke⟩
        have hol : (ro.map Row.v ++ List.replicate (ra.length - k) (Value.slice none 0 0)).length = ra.length := by simp; omega
        by_cases hlt5 : k < ra.length
        · have hrk := hrow2 k hlt5
          refine WC.learn (fun w hw => rowA_cap (k := k) hw (.tail _ (.tail _ (.tail _ (.head _)))) (by omega)) fun hcap => ?_
          have hdl : ((nth rs k).l.drop ra.length).length = (nth rs k).l.length - ra.length := by rw [List.length_drop]
          refine WC.seq fun K hK => ?_
          refine WC.region rfl ?_
          refine wG rfl rfl (g_lt rfl (.mk rfl rfl) (.mk rfl rfl) (decide_eq_true (by omega))) ?_
          refine WL.nil (hK _ _ ?_); clear hK
          refine WC.seq fun K hK => ?_
          refine WC.cond_true (.mk rfl rfl) ?_
          refine WC.skip ?_
          (refine hK _ _ ?_; clear hK)
          refine WC.seq fun K hK => ?_
          refine WC.block ?_
          refine WC.seq fun K hK => ?_
          refine WC.region rfl ?_
          refine wMI rfl rfl rfl rfl rfl ?_
          refine wAI rfl rfl rfl rfl rfl ?_
          refine WL.nil (hK _ _ ?_); clear hK
          refine WC.region rfl ?_
          refine wMS rfl rfl rfl rfl rfl ?_
          refine wMI rfl rfl rfl rfl rfl ?_
          refine wMS rfl rfl rfl rfl rfl ?_
          refine wMI rfl rfl rfl rfl rfl ?_
          refine wG rfl rfl (g_indexAddr (sz := 1) rfl (.mk rfl rfl) (.mk rfl rfl) rfl rfl rfl (by omega) (fun w hw => vec_some hw (.tail _ (.tail _ (.head _))) (by omega))) ?_
          refine wG rfl rfl (g_load rfl (.mk rfl rfl) rfl (rd_vec (.tail _ (.tail _ (.head _))) (get1 (by omega)))) ?_
          refine wMI rfl rfl rfl rfl rfl ?_
          refine wG rfl rfl (g_slice (sz := 1) (kh := .i64) (q := 0) rfl (.mk rfl rfl) rfl rfl ⟨(.mk rfl rfl), rfl⟩ rfl (by omega) (by omega)) ?_
          (refine WL.want rfl (WL1.callN rfl rfl rfl (.cons (.mk (v := .slice _ _ _) rfl rfl) .nil) (fun w hw => cloneb_n _ ((nth rs k).l.drop ra.length) w (Sl.drop_row (Sl.of_rowA (k := k) hw (.tail _ (.tail _ (.tail _ (.head _)))) (by omega)) rfl (by omega)) (by omega) (by omega)) ?_); rintro _ _ ⟨Ak, ck, rfl, rfl⟩)
          refine wG rfl rfl (g_indexAddr (sz := 1) rfl (.mk rfl rfl) (.mk rfl rfl) rfl rfl rfl (by omega) (fun _ _ => rfl)) ?_
          refine WL.want rfl (WL1.storeV1 rfl rfl (.mk rfl rfl) (.mk (v := .slice _ _ _) rfl rfl) rfl rfl (by first | omega | (simp; done) | (simp; omega)) (.tail (.tail (.head))) ?_)
          refine WL.nil (hK _ _ ?_); clear hK
          refine WC.region rfl ?_
          refine wG rfl rfl (g_add rfl (.mk rfl rfl) (.mk rfl rfl) (IntWalk.i64_in _ (by omega))) ?_
          refine wMI rfl rfl rfl rfl rfl ?_
          refine WL.nil ?_
          refine ⟨k + 1, ro ++ [⟨Ak, ck, (nth rs k).l.drop ra.length⟩], (by repeat (first | with_reducible exact Out.refl _ _ | refine Out.set rfl ?_ | refine Out.put rfl ?_ | refine Out.sets rfl ?_ | refine Out.hav rfl ?_ | exact Out.refl _ _)), ⟨rfl, trivial⟩, ?_, ⟨by omega, by rw [List.length_append, hkl]; rfl, ?_⟩, by omega⟩
          · rw [← nilrow_set ro ⟨Ak, ck, (nth rs k).l.drop ra.length⟩ hkl hlt5 rfl]
            exact Imp.add2 (rs := ro) (r := ⟨Ak, ck, (nth rs k).l.drop ra.length⟩) (by repeat (first | exact .head | apply Take.tail)) (by repeat (first | exact .head | apply Swap.tail))
          · rw [els_add, hke, take_succ_nth (by omega), nth_map _ (by rw [hI.shp.1]; exact hlt5), ← hre, els_at (by omega)]
        · obtain rfl : k = ra.length := by omega
          refine WC.seq fun K hK => ?_
          refine WC.region rfl ?_
          refine wG rfl rfl (g_lt rfl (.mk rfl rfl) (.mk rfl rfl) (decide_eq_false (by omega))) ?_
          refine WL.nil (hK _ _ ?_); clear hK
          refine WC.seq fun K hK => ?_
          refine WC.cond_false (.mk rfl rfl) ?_
          refine WC.exit ?_
          (clear hK; refine hK _ _ ?_; clear hK)
          refine WC.seq fun K hK => ?_
          refine WC.region rfl ?_
          refine wMS rfl rfl rfl rfl rfl ?_
          refine wAS rfl rfl rfl rfl rfl ?_
          refine wAI rfl rfl rfl rfl rfl ?_
          refine WL.nil (hK _ _ ?_); clear hK
          refine WC.ret ?_
          refine fun w' hw' => ⟨_, matM (some ⟨b143, 0, none⟩) ro.length ro, rfl, ?_, .inr ⟨some ⟨b143, 0, none⟩, ro.length, ro, by rw [hkl]; rfl, rfl, by rw [hvv, hke, List.take_of_length_le (by omega)], hkl⟩⟩
          have := ((Imp.sub (.cons_cons _ (.cons_cons _ (List.nil_sublist _)))).trans (Imp.perm (.swap _ _ _))).h hw'
          rw [Nat.sub_self, List.replicate_zero, List.append_nil] at this
          unfold matM
          rw [hkl]; exact this
theorem inverse_n (va : Value) (ra : List Row) (v : List (List G)) (w : World) (ha : MatAt w va ra) (hg : Good (els ra)) (hsq : (nth ra 0).l.length = ra.length) (hv : invM (els ra) = some v) :
    Calls Tryz.prog 91 #[va] w fun e w' => ∃ v' M, e = .returned v' ∧ H w M w' ∧ ∃ A cc rs, v' = .tuple #[.slice A rs.length cc, iv 0] ∧ M = matM A cc rs ∧ els rs = v ∧ rs.length = ra.length :=
  (inverse_c va ra w ha hg hsq).mono fun e w' ⟨v', M, he, hH, h⟩ => ⟨v', M, he, hH, by
    rcases h with ⟨h1, _⟩ | ⟨A, cc, rs, h1, h2, h3, h4⟩
    · rw [hv] at h1; cases h1
    · rw [hv] at h3
      injection h3 with h3
      exact ⟨A, cc, rs, h1, h2, h3.symm, h4⟩⟩
end Go.Proofs.YtdcijljfgcjelaaGreat
namespace Go.Proofs.YtdcijljfgcjelaaGreat
set_option maxRecDepth 20000
open Go.RowKit
def rowsM (m : List (List G)) (sel : List Nat) : List (List G) := sel.map fun k => nth m k
theorem rowsM_len (m : List (List G)) (sel : List Nat) : (rowsM m sel).length = sel.length := by simp [rowsM]
theorem rowsM_at {m : List (List G)} {sel : List Nat} {k : Nat} (h : k < sel.length) : nth (rowsM m sel) k = nth m (nth sel k) := nth_map _ h
theorem MatAt.some {w0 w : World} {L : List Asrt} {va : Value} {ra : List Row} {sel : List Nat} {A : Option Addr} {c : Nat} (ha : MatAt w va ra) (hsel : ∀ k, k < sel.length → nth sel k < ra.length) (hw : H w0 L w) (hm : vec A sel.length c 99 1 ((sel.map fun k => nth ra k).map Row.v) ∈ L) : MatAt w (.slice A sel.length c) (sel.map fun k => nth ra k) := by
  have h := Sl.of_vec hw hm
  refine ⟨by rw [List.length_map]; exact h, fun r hr => ?_⟩
  obtain ⟨k, hk, rfl⟩ := List.mem_map.1 hr
  obtain ⟨i, hi, rfl⟩ := List.getElem_of_mem hk
  have := hsel i hi
  rw [nth_eq hi] at this
  exact ha.row this
theorem els_some (ra : List Row) (sel : List Nat) (hsel : ∀ k, k < sel.length → nth sel k < ra.length) : els (sel.map fun k => nth ra k) = rowsM (els ra) sel := by
  unfold els rowsM
  rw [List.map_map]
  refine List.map_congr_left fun k hk => ?_
  obtain ⟨i, hi, rfl⟩ := List.getElem_of_mem hk
  have := hsel i hi
  rw [nth_eq hi] at this
  exact (els_at this).symm
end Go.Proofs.YtdcijljfgcjelaaGreat
namespace Go.Proofs.YtdcijljfgcjelaaGreat
set_option maxRecDepth 20000
open Go.RowKit
end Go.Proofs.YtdcijljfgcjelaaGreat
namespace Go.Proofs.YtdcijljfgcjelaaGreat
set_option maxRecDepth 20000
open Go.RowKit
attribute [local irreducible] Calls
abbrev backV (b : Nat) : Value := .func (.func 122) #[] #[cellPtr (some ⟨b, 0, none⟩) 0]
set_option maxHeartbeats 1000000 in
theorem back_n (A : Option Addr) (n c : Nat) (w : World) : Calls Tryz.prog 77 #[.slice A n c] w fun e w' => ∃ v M, e = .returned v ∧ H w M w' ∧ ∃ b, v = backV b ∧ M = [pt b 22 [.slice A n c]] := by
  refine calls_wc (args := [.slice A n c]) [2] [] Tryz.func77 rfl Tryz.ntmps77 rfl rfl rfl rfl (H.refl w) ?_
  refine WC.seq fun K hK => ?_
  refine WC.region rfl ?_
  refine WL.want rfl (WL1.box rfl rfl (.mk (v := .slice _ _ _) rfl rfl) rfl (fun b1 => ?_))
  refine wG rfl rfl (g_assign rfl (.mk rfl (by conv => lhs; whnf))) ?_
  refine WL.nil (hK _ _ ?_); clear hK
  refine WC.seq fun K hK => ?_
  refine WC.region rfl ?_
  refine wG rfl rfl (g_makeFunc rfl (.cons (.mk (v := cellPtr _ _) rfl rfl) .nil)) ?_
  refine wG rfl rfl (g_assign rfl (.mk (v := .func _ _ _) rfl rfl)) ?_
  refine WL.nil (hK _ _ ?_); clear hK
  refine WC.ret ?_
  exact fun w' hw' => ⟨_, _, rfl, hw', b1, rfl, rfl⟩
set_option maxHeartbeats 1000000 in
theorem back_it {w0 w : World} {A : Option Addr} {c b r : Nat} {ds : List Blk} {Ls : Nat → List Asrt} (hm : c ≤ maxLen) (hn : ds.length ≤ c) (hs : Sl w0 8 (.slice A ds.length c) ds.length (kvs ds)) (hp : ∀ i, pt b 22 [.slice A ds.length c] ∈ Ls i)
    (hy : ∀ m, m < ds.length → ∀ w, H w0 (Ls (m + 1)) w → YieldAt Fence.wide 0 Tryz.prog r #[iv m, kv (nth ds m)] w fun e w' => e = .returned (.bool true) ∧ H w0 (Ls m) w')
    (hw : H w0 (Ls ds.length) w) : Calls Tryz.prog 122 #[.func (.yield r) #[] #[], cellPtr (some ⟨b, 0, none⟩) 0] w fun e w' => e = .returned (.tuple #[]) ∧ H w0 (Ls 0) w' := by
  unfold maxLen at hm
  refine calls_wc (args := [.func (.yield r) #[] #[], cellPtr (some ⟨b, 0, none⟩) 0]) [] (Ls ds.length) Tryz.func122 rfl Tryz.ntmps122 rfl rfl rfl rfl hw ?_
  refine WC.seq fun K hK => ?_
  refine WC.region rfl ?_
  refine wG rfl rfl (g_load rfl (.mk rfl rfl) rfl (rd_pt (hp _) rfl)) ?_
  refine wG rfl rfl (g_len rfl (.mk rfl rfl) rfl) ?_
  refine wG rfl rfl (g_sub rfl (.mk rfl rfl) (.mk rfl rfl) (IntWalk.i64_in _ (by omega))) ?_
  refine wAI rfl rfl rfl rfl rfl ?_
  refine WL.nil (hK _ _ ?_); clear hK
  refine WC.block ?_
  refine WC.loop2 (524168) (fun (m : Nat) (z : Int) => [(3, iv z)]) (fun m _ => Ls m) (fun m z => m ≤ ds.length ∧ z = (m : Int) - 1) (fun m _ => m) ds.length ((ds.length : Int) - 1) ⟨rfl, trivial⟩ (.refl _) ⟨by omega, rfl⟩ ?_
  rintro m z U ⟨hml, hz⟩
  cases m with
  | zero =>
    refine WC.seq fun K hK => ?_
    refine WC.seq fun K hK => ?_
    refine WC.region rfl ?_
    refine wMI rfl rfl rfl rfl rfl ?_
    refine wG rfl rfl (g_ge rfl (.mk rfl rfl) (.mk rfl rfl) (decide_eq_false (by omega))) ?_
    refine WL.nil (hK _ _ ?_); clear hK
    refine WC.cond_false (.mk rfl rfl) ?_
    refine WC.exit ?_
    exact fun w' hw' => ⟨rfl, hw'⟩
  | succ m =>
    obtain rfl : z = (m : Int) := by omega
    refine WC.seq fun K hK => ?_
    refine WC.seq fun K hK => ?_
    refine WC.region rfl ?_
    refine wMI rfl rfl rfl rfl rfl ?_
    refine wG rfl rfl (g_ge rfl (.mk rfl rfl) (.mk rfl rfl) (decide_eq_true (by omega))) ?_
    refine WL.nil (hK _ _ ?_); clear hK
    refine WC.cond_true (.mk rfl rfl) ?_
    refine WC.skip ?_
    (refine hK _ _ ?_; clear hK)
    refine WC.seq fun K hK => ?_
    refine WC.block ?_
    refine WC.seq fun K hK => ?_
    refine WC.regionY 6 (r := r) rfl rfl rfl rfl ?_
    refine wG rfl rfl (g_move rfl (.mk (v := .func _ _ _) rfl rfl)) ?_
    refine wMI rfl rfl rfl rfl rfl ?_
    refine wG rfl rfl (g_load rfl (.mk rfl rfl) rfl (rd_pt (hp _) rfl)) ?_
    refine wMI rfl rfl rfl rfl rfl ?_
    refine wG rfl rfl (g_indexAddr (sz := 8) rfl (.mk rfl rfl) (.mk rfl rfl) rfl rfl rfl (by omega) (fun _ _ => sl_some hs (by omega))) ?_
    refine wG rfl rfl (g_loadA rfl (.mk rfl rfl) rfl (sz8 _) (rdr_sl hs (by omega) (flat_row (by first | assumption | exact fun _ _ => rfl | exact blk8) (by omega)))) ?_
    refine WL.nil ?_
    refine ⟨[iv m, kv (nth ds m)], .mk rfl rfl, .cons (.mk rfl rfl) (.cons (.mk rfl rfl) .nil), fun w' hw' => YieldAt.mono (hy m (by omega) w' hw') ?_⟩
    rintro e w2 ⟨rfl, hH⟩
    refine ⟨_, _, rfl, hH, ?_⟩
    refine wG rfl rfl (g_notT rfl (.mk rfl rfl)) ?_
    refine WL.nil (hK _ _ ?_); clear hK
    refine WC.cond_false (.mk rfl rfl) ?_
    refine WC.skip ?_
    (refine hK _ _ ?_; clear hK)
    refine WC.region rfl ?_
    refine wMI rfl rfl rfl rfl rfl ?_
    refine wG rfl rfl (g_sub rfl (.mk rfl rfl) (.mk rfl rfl) (IntWalk.i64_in _ (by omega))) ?_
    refine wAI rfl rfl rfl rfl rfl ?_
    refine WL.nil ?_
    exact ⟨m, (m : Int) - 1, (by repeat (first | with_reducible exact Out.refl _ _ | refine Out.set rfl ?_ | refine Out.put rfl ?_ | refine Out.sets rfl ?_ | refine Out.hav rfl ?_ | exact Out.refl _ _)), ⟨rfl, trivial⟩, .refl _, ⟨by omega, rfl⟩, by omega⟩
end Go.Proofs.YtdcijljfgcjelaaGreat
namespace Go.Proofs.YtdcijljfgcjelaaGreat
set_option maxRecDepth 20000
open Go.RowKit
theorem reduce_eq (n : Int) : (n.tmod 255 + 255) % 255 = n % 255 := by
  rw [Int.tmod_eq_emod]
  split <;> omega
set_option maxHeartbeats 400000 in
theorem reduce_any (n : Int) (_h1 : -9223372036854775808 ≤ n) (_h2 : n ≤ 9223372036854775807) (w : World) :
    Calls Tryz.prog 124 #[iv n] w fun e w' => e = .returned (iv (n % 255)) ∧ w = w' := by
  have h3 : -255 < n.tmod 255 := Int.lt_tmod_of_pos _ (by omega)
  have h4 : n.tmod 255 < 255 := Int.tmod_lt_of_pos _ (by omega)
  go_enter Tryz.func124, Tryz.ntmps124
  go_wp2
  go_ret
  exact ⟨congrArg (fun z : Int => Ending.returned (.int .i64 z)) (reduce_eq n), rfl⟩
set_option maxHeartbeats 400000 in
theorem exp_any (n : Int) (h1 : -9223372036854775808 ≤ n) (h2 : n ≤ 9223372036854775807) (w : World) :
    Calls Tryz.prog 79 #[iv n] w fun e w' => e = .returned (bv (gpow 2 (n % 255).toNat)) ∧ w = w' := by
  go_enter Tryz.func79, Tryz.ntmps79
  go_wp2_with (first | (go_at_call 124; refine (reduce_any _ h1 h2 _).mono ?_; rintro e w' ⟨rfl, rfl⟩) | (go_at_call 123; refine (power_any 2 _ (by omega) (by omega) _).mono ?_; rintro e w' ⟨rfl, rfl⟩))
  go_ret
  exact ⟨rfl, rfl⟩
end Go.Proofs.YtdcijljfgcjelaaGreat
namespace Go.Proofs.YtdcijljfgcjelaaGreat
set_option maxRecDepth 20000
open Go.RowKit
attribute [local irreducible] Calls
def hor (c : G) : List Blk → Blk
  | [] => 0
  | d :: ds => d + c * hor c ds
theorem hor_drop (c : G) (ds : List Blk) {m : Nat} (h : m < ds.length) : hor c (ds.drop m) = nth ds m + c * hor c (ds.drop (m + 1)) := by
  rw [List.drop_eq_getElem_cons h, hor, nth_eq h]
theorem hor_len (c : G) (ds : List Blk) : hor c (ds.drop ds.length) = 0 := by rw [List.drop_length]; rfl
def encP (j : Nat) (ds : List Blk) : List Blk := (List.range 3).map fun q => if q < j then hor (gpow 2 q) ds else 0
def enc (ds : List Blk) : List Blk := (List.range 3).map fun q => hor (gpow 2 q) ds
theorem encP_len (j : Nat) (ds : List Blk) : (encP j ds).length = 3 := by simp [encP]
theorem encP_nth (j : Nat) (ds : List Blk) {q : Nat} (h : q < 3) : nth (encP j ds) q = if q < j then hor (gpow 2 q) ds else 0 := nth_range _ h
theorem nth_set_eq {α : Type} [Inhabited α] {l : List α} {k : Nat} {a : α} (hk : k < l.length) (j : Nat) : nth (l.set k a) j = if j = k then a else nth l j := by
  unfold nth
  rw [List.getD_eq_getElem?_getD, List.getD_eq_getElem?_getD, List.getElem?_set]
  by_cases h : j = k
  · subst h; rw [if_pos rfl, if_pos hk, if_pos rfl]; rfl
  · rw [if_neg (fun e => h e.symm), if_neg h]
theorem encP_set {j : Nat} {ds : List Blk} (h : j < 3) : (encP j ds).set j (hor (gpow 2 j) ds) = encP (j + 1) ds :=
  list_ext_nth (by rw [List.length_set, encP_len, encP_len]) fun q hq => by
    have hq3 : q < 3 := by rw [List.length_set, encP_len] at hq; exact hq
    rw [nth_set_eq (by rw [encP_len]; exact h), encP_nth _ _ hq3, encP_nth _ _ hq3]
    by_cases e : q = j
    · subst e; rw [if_pos rfl, if_pos (by omega)]
    · rw [if_neg e]
      by_cases e2 : q < j
      · rw [if_pos e2, if_pos (by omega)]
      · rw [if_neg e2, if_neg (by omega)]
theorem encP_same {j : Nat} {ds : List Blk} (h : j < 3) : (encP j ds).set j 0 = encP j ds :=
  list_ext_nth (by rw [List.length_set]) fun q hq => by
    have hq3 : q < 3 := by rw [List.length_set, encP_len] at hq; exact hq
    rw [nth_set_eq (by rw [encP_len]; exact h)]
    by_cases e : q = j
    · subst e; rw [if_pos rfl, encP_nth _ _ hq3, if_neg (by omega)]
    · rw [if_neg e]
theorem encP_all (ds : List Blk) : encP 3 ds = enc ds := List.map_congr_left fun q hq => if_pos (by simpa using hq)
theorem exp_j (j : Nat) (h : j < 255) (w : World) : Calls Tryz.prog 79 #[iv j] w fun e w' => e = .returned (bv (gpow 2 j)) ∧ w' = w :=
  (exp_any j (by omega) (by omega) w).mono fun _ _ ⟨h1, h2⟩ => ⟨by rw [h1, show ((j : Int) % 255).toNat = j from by omega], h2.symm⟩
theorem elK : Elem Tryz.prog 22 41 (.agg z8.toArray) 8 8 := ⟨by kernel_rfl, by kernel_rfl, rfl, by decide⟩
theorem made3 (ds : List Blk) : (madeCells (Value.agg z8.toArray).cells (3 * 8)).toList = kvs (encP 0 ds) := by kernel_rfl
set_option maxHeartbeats 1000000 in
theorem encode_n (v : Value) (ds : List Blk) (w : World) (hv : Sl w 8 v ds.length (kvs ds)) (h1 : 1 ≤ ds.length) (h2 : ds.length ≤ 13) : Calls Tryz.prog 28 #[v] w fun e w' => ∃ v' M, e = .returned v' ∧ H w M w' ∧
    ∃ b, v' = .tuple #[.slice (some ⟨b, 0, none⟩) 3 3, iv 0] ∧ M = [vec (some ⟨b, 0, none⟩) 3 3 41 8 (kvs (enc ds))] := by
  obtain ⟨A, c, rfl, hc, hm, hs⟩ := hv.open_
  refine calls_wcM (args := [.slice A ds.length c]) [2, 3] [] Tryz.func28 rfl Tryz.ntmps28 rfl rfl rfl rfl (H.refl w) ?_
  refine (show WG _ _ w _ _ _ _ from ?_) w (H.refl w)
  (refine WG.seq ?_; intro K hK)
  refine WC.region rfl ?_
  refine wAS rfl rfl rfl rfl rfl ?_
  refine wAI rfl rfl rfl rfl rfl ?_
  refine WL.nil (hK _ _ ?_); clear hK
  (refine WG.seq ?_; intro K hK)
  refine WC.seq fun K hK => ?_
  refine WC.region rfl ?_
  refine wMS rfl rfl rfl rfl rfl ?_
  refine wG rfl rfl (g_len rfl (.mk rfl rfl) rfl) ?_
  refine wG rfl rfl (g_lt rfl (.mk rfl rfl) (.mk rfl rfl) (decide_eq_false (by omega))) ?_
  refine wMB rfl rfl rfl rfl rfl ?_
  refine WL.wantG rfl rfl rfl rfl (WL1.give rfl (g_move rfl (.mk (v := .slice _ _ _) rfl rfl)) ?_)
  refine WL.wantG rfl rfl rfl rfl (WL1.give rfl (g_len rfl (.mk rfl rfl) rfl) ?_)
  refine WL.wantG rfl rfl rfl rfl (WL1.give rfl (g_gt rfl (.mk rfl rfl) (.mk rfl rfl) (decide_eq_false (by omega))) ?_)
  refine wG rfl rfl (g_pickF rfl (.mk rfl rfl) (.mk (v := .bool _) rfl rfl)) ?_
  refine WL.nil (hK _ _ ?_); clear hK
  refine WC.cond_false (.mk rfl rfl) ?_
  refine WC.skip ?_
  (refine hK _ _ ?_; clear hK)
  (refine WG.seq ?_; intro K hK)
  refine WC.region rfl ?_
  refine WL.want rfl (WL1.make elK rfl rfl (.mk rfl rfl) (.mk rfl rfl) (Int.toNat_of_nonneg (by omega)).symm (Int.toNat_of_nonneg (by omega)).symm (by omega) (by unfold maxLen; omega) (fun b16 => ?_))
  refine WL.want rfl (WL1.alloc rfl rfl rfl rfl (fun b4 => ?_))
  refine WL.want rfl (WL1.store1 rfl rfl (.mk rfl rfl) (.mk rfl rfl) rfl rfl (Nat.le_of_ble_eq_true rfl) (.head) ?_)
  refine WL.nil (hK _ _ ?_); clear hK
  refine WG.seqG ?_
  (refine WG.seq ?_; intro K hK)
  refine WC.region rfl ?_
  refine wG rfl rfl (g_load rfl (.mk rfl rfl) rfl (rd_pt (.head _) rfl)) ?_
  refine wG rfl rfl (g_len rfl (.mk rfl rfl) rfl) ?_
  refine wMI rfl rfl rfl rfl rfl ?_
  refine WL.nil (hK _ _ ?_); clear hK
  refine WG.block ?_
  refine WG.loop (274827051168) (fun g : Nat × List Nat => [(19, iv g.1)]) (fun g => pt b4 22 [.slice (some ⟨b16, 0, none⟩) 3 3] :: vec (some ⟨b16, 0, none⟩) 3 3 41 8 (kvs (encP g.1 ds)) :: g.2.map dfr) (fun g => g.2) (fun g => g.1 ≤ 3) (fun g => 3 - g.1) (0, []) ⟨rfl, trivial⟩ (by show List.Sublist [pt b4 22 [.slice (some ⟨b16, 0, none⟩) 3 3], vec (some ⟨b16, 0, none⟩) 3 3 41 8 (kvs (encP 0 ds))] _; rw [← made3 ds]; exact .refl _) rfl (by show 0 ≤ 3; omega) ?_
  rintro ⟨j, Ds⟩ U hj
  have hj3 : j ≤ 3 := hj
  by_cases hlt : j < 3
  · (refine WG.seq ?_; intro K hK)
    refine WC.region rfl ?_
    refine wG rfl rfl (g_lt rfl (.mk rfl rfl) (.mk rfl rfl) (decide_eq_true (by omega))) ?_
    refine WL.nil (hK _ _ ?_); clear hK
    (refine WG.seq ?_; intro K hK)
    refine WC.cond_true (.mk rfl rfl) ?_
    refine WC.skip ?_
    (refine hK _ _ ?_; clear hK)
    refine WG.seqG ?_
    refine WG.block ?_
    (refine WG.seq ?_; intro K hK)
    refine WC.region rfl ?_
    refine wMI rfl rfl rfl rfl rfl ?_
    refine WL.want rfl (WL1.alloc rfl rfl rfl rfl (fun b5 => ?_))
    refine WL.want rfl (WL1.store1 rfl rfl (.mk rfl rfl) (.mk rfl rfl) rfl rfl (Nat.le_of_ble_eq_true rfl) (.head) ?_)
    refine WL.nil (hK _ _ ?_); clear hK
    (refine WG.seq ?_; intro K hK)
    refine WC.region rfl ?_
    refine wMS rfl rfl rfl rfl rfl ?_
    (refine WL.want rfl (WL1.callN rfl rfl rfl (.cons (.mk (v := .slice _ _ _) rfl rfl) .nil) (fun w hw => back_n A ds.length c w) ?_); rintro _ _ ⟨bs, rfl, rfl⟩)
    refine WL.nil (hK _ _ ?_); clear hK
    refine WG.block ?_
    intro w1 hw1
    have hcl : ds.length ≤ c := by have := hs; omega
    refine wpF_range_it (ps := [24, 25]) ds.length (fun m => [pt bs 22 [.slice A ds.length c], pt b5 3 [iv j], pt b4 22 [.slice (some ⟨b16, 0, none⟩) 3 3], vec (some ⟨b16, 0, none⟩) 3 3 41 8 (kvs ((encP j ds).set j (hor (gpow 2 j) (ds.drop m))))] ++ Ds.map dfr) (fun m => [iv m, kv (nth ds m)]) rfl (.mk rfl rfl) rfl hw1 ?_ (fun _ => rfl)
      (fun r D X hy w' hw' => back_it (Ls := fun m => X :: dfr D :: ([pt bs 22 [.slice A ds.length c], pt b5 3 [iv j], pt b4 22 [.slice (some ⟨b16, 0, none⟩) 3 3], vec (some ⟨b16, 0, none⟩) 3 3 41 8 (kvs ((encP j ds).set j (hor (gpow 2 j) (ds.drop m))))] ++ Ds.map dfr)) hm hcl hs (fun i => .tail _ (.tail _ (.head _))) hy hw') ?_ ?_
    · show List.Sublist (_ :: _ :: _ :: _ :: Ds.map dfr) _
      rw [hor_len, encP_same hlt]
      exact .refl _
    · intro rec r D m hlm
      have hen := encP_len j ds
      have hlx : (kvs ((encP j ds).set j (hor (gpow 2 j) (ds.drop (m + 1))))).length = 3 * 8 := by rw [flat_len blk8, List.length_set, encP_len]
      have hse := nth_set_eq (l := encP j ds) (a := hor (gpow 2 j) (ds.drop (m + 1))) (by rw [encP_len]; exact hlt) j
      rw [if_pos rfl] at hse
      refine WC.region rfl ?_
      refine WL.want rfl (WL1.alloc rfl rfl rfl rfl (fun b7 => ?_))
      refine WL.want rfl (WL1.storeAll rfl rfl (.mk rfl rfl) (.mk rfl rfl) (sz8 _) (Blk.one _) (by first | rfl | (simp [Blk.len]; done)) (.head) ?_)
      refine WL.nil ?_
      refine ⟨_, .tail .head, ?_⟩
      refine WC.block ?_
      refine WC.split 11 rfl (by kernel_rfl) (by decide +kernel) ?_
      refine WQ.want rfl (WQ1.give rfl (g_load rfl (.mk rfl rfl) rfl (rd_pt (.tail _ (.tail _ (.tail _ (.tail _ (.tail _ (.head _)))))) rfl)) ?_)
      refine WQ.want rfl (WQ1.give rfl (g_load rfl (.mk rfl rfl) rfl (rd_pt (.tail _ (.tail _ (.tail _ (.tail _ (.head _))))) rfl)) ?_)
      refine WQ.want rfl (WQ1.give rfl (g_loadA rfl (.mk rfl rfl) rfl (sz8 _) (rdr_pt (.head _) (fun j u h => by simpa using h))) ?_)
      refine WQ.want rfl (WQ1.give rfl (g_load rfl (.mk rfl rfl) rfl (rd_pt (.tail _ (.tail _ (.tail _ (.tail _ (.tail _ (.head _)))))) rfl)) ?_)
      refine WQ.want rfl (WQ1.give rfl (g_load rfl (.mk rfl rfl) rfl (rd_pt (.tail _ (.tail _ (.tail _ (.tail _ (.head _))))) rfl)) ?_)
      refine WQ.want rfl (WQ1.give rfl (g_indexAddr (sz := 8) rfl (.mk rfl rfl) (.mk rfl rfl) rfl rfl rfl (by omega) (fun _ _ => rfl)) ?_)
      refine WQ.want rfl (WQ1.give rfl (g_loadA rfl (.mk rfl rfl) rfl (sz8 _) (rdr_vec (.tail _ (.tail _ (.tail _ (.tail _ (.tail _ (.tail _ (.head _))))))) (by omega) (flat_row blk8 (by rw [List.length_set]; omega)))) ?_)
      refine WQ.want rfl (WQ1.give rfl (g_load rfl (.mk rfl rfl) rfl (rd_pt (.tail _ (.tail _ (.tail _ (.tail _ (.head _))))) rfl)) ?_)
      refine WQ.want rfl (WQ1.callP rfl rfl rfl (.cons (.mk (v := .int _ _) rfl rfl) .nil) (fun w hw => Calls.belowS (exp_j j (by omega) w)) ?_)
      refine WQ.want rfl (WQ1.callP rfl rfl rfl (.cons (.mk (v := .agg _) rfl rfl) (.cons (.mk (v := .agg _) rfl rfl) (.cons (.mk (v := .int _ _) rfl rfl) .nil))) (fun w hw => fused_e _ _ _ w) ?_)
      refine WQ.want rfl (WQ1.give rfl (g_indexAddr (sz := 8) rfl (.mk rfl rfl) (.mk rfl rfl) rfl rfl rfl (by omega) (fun _ _ => rfl)) ?_)
      refine WQ.nil ?_
      refine WY.one 11 (by decide +kernel) rfl rfl ?_
      refine WL1.storeVA rfl rfl (.mk rfl rfl) (.mk rfl rfl) rfl (all1 rfl) (by first | decide | omega | exact Nat.le_of_ble_eq_true rfl | (simp; done) | (simp; omega) | (rw [Blk.len]; omega)) (by first | omega | (rw [Blk.len]; omega) | (simp; done) | (simp; omega)) (.tail (.tail (.tail (.tail (.tail (.tail (.head))))))) ?_
      refine WL.nil ?_
      refine WY.done (by decide +kernel) ?_
      refine ⟨_, .tail .head, .cons _ ?_⟩
      have hfs : spl (kvs ((encP j ds).set j (hor (gpow 2 j) (ds.drop (m + 1))))) (j * 8) (nth ds m + gpow 2 j * hor (gpow 2 j) (ds.drop (m + 1))).cells = kvs ((encP j ds).set j (hor (gpow 2 j) (ds.drop m))) := by
        have := flat_set (l := (encP j ds).set j (hor (gpow 2 j) (ds.drop (m + 1)))) (k := j) (v := nth ds m + gpow 2 j * hor (gpow 2 j) (ds.drop (m + 1))) blk8 (Blk.len _) (by rw [List.length_set, encP_len]; exact hlt)
        rw [List.set_set] at this
        rw [hor_drop _ _ hlm]
        exact this
      rw [hse, hfs]
      exact .refl _
    · intro D w3 hw3
      rw [List.drop_zero, encP_set hlt] at hw3
      refine (show WG _ ⟨39, none, marks (D :: Ds)⟩ w _ _ _ _ from ?_) w3 hw3
      refine WG.of ?_
      refine WC.region rfl ?_
      refine wG rfl rfl (g_add rfl (.mk rfl rfl) (.mk rfl rfl) (IntWalk.i64_in _ (by omega))) ?_
      refine wMI rfl rfl rfl rfl rfl ?_
      refine WL.nil ?_
      exact fun w' hw' => ⟨(j + 1, D :: Ds), _, (by repeat (first | with_reducible exact Out.refl _ _ | refine Out.set rfl ?_ | refine Out.put rfl ?_ | refine Out.sets rfl ?_ | refine Out.hav rfl ?_ | exact Out.refl _ _)), ⟨rfl, trivial⟩, rfl, (hw'.sub (.cons_cons _ (.cons _ (.cons _ (.refl _))))).perm ((List.Perm.swap _ _ _).trans ((List.Perm.swap _ _ _).cons _)), by show j + 1 ≤ 3; omega, by show 3 - (j + 1) < 3 - j; omega⟩
  · obtain rfl : j = 3 := by omega
    (refine WG.seq ?_; intro K hK)
    refine WC.region rfl ?_
    refine wG rfl rfl (g_lt rfl (.mk rfl rfl) (.mk rfl rfl) (decide_eq_false (by omega))) ?_
    refine WL.nil (hK _ _ ?_); clear hK
    (refine WG.seq ?_; intro K hK)
    refine WC.cond_false (.mk rfl rfl) ?_
    refine WC.exit ?_
    intro w1 hw1
    refine (show WG _ ⟨39, none, marks Ds⟩ w _ _ _ _ from ?_) w1 hw1
    (refine WG.seq ?_; intro K hK)
    refine WC.region rfl ?_
    refine wG rfl rfl (g_load rfl (.mk rfl rfl) rfl (rd_pt (.head _) rfl)) ?_
    refine wAS rfl rfl rfl rfl rfl ?_
    refine wAI rfl rfl rfl rfl rfl ?_
    refine WL.nil (hK _ _ ?_); clear hK
    refine WG.of ?_
    refine WC.ret ?_
    exact fun w' hw' => ⟨_, Ds, [vec (some ⟨b16, 0, none⟩) 3 3 41 8 (kvs (enc ds))], rfl, (hw'.sub (.cons _ (.refl _))).perm (by rw [← encP_all]; exact (List.perm_append_comm (l₁ := [_]) (l₂ := Ds.map dfr))), fun w'' hw'' => ⟨_, _, rfl, hw'', b16, rfl, rfl⟩⟩
end Go.Proofs.YtdcijljfgcjelaaGreat
namespace Go.Proofs.YtdcijljfgcjelaaGreat
set_option maxRecDepth 20000
open Go.RowKit
set_option maxHeartbeats 400000 in
theorem rpower_any (a : G) (n : Int) (h1 : n ≤ 9223372036854775807) (w : World) :
    Calls Tryz.prog 84 #[bv a, iv n] w fun e w' => e = .returned (bv (gpow a n.toNat)) ∧ w = w' := by
  go_enter Tryz.func84, Tryz.ntmps84
  go_wp2
  go_loop [5, 6] (fun o1 k1 => ∃ k : Nat, (k = 0 ∨ (k : Int) ≤ n) ∧ o1 = bv (gpow a k) ∧ k1 = iv k) (fun _ k1 => (n - intOf k1).toNat)
  case atStart => exact ⟨0, .inl rfl, rfl, rfl⟩
  case round =>
    obtain ⟨k, hk, rfl, rfl⟩ := hrel
    by_cases hlt : (k : Int) < n
    · go_wp2_with (go_at_call 85; refine (rmul_any _ _ _).mono ?_; rintro e w' ⟨rfl, rfl⟩)
      go_round
      case rel => exact ⟨k + 1, .inr (by omega), rfl, by go_num⟩
      case measure => simp [intOf]; omega
    · have hn : Hid (n.toNat = k) := show _ = _ by omega
      go_wp2_with (fail)
      go_ret
      exact ⟨by rw [hn.out]; rfl, rfl⟩
end Go.Proofs.YtdcijljfgcjelaaGreat
namespace Go.Proofs.YtdcijljfgcjelaaGreat
set_option maxRecDepth 20000
open Go.RowKit
attribute [local irreducible] Calls
theorem eqv_blk (a b : Blk) : EqV Tryz.prog 41 (kv a) (kv b) (decide (a = b)) := by
  refine EqV.arr (m := 8) (e := 5) (k0 := .u8) (by kernel_rfl) rfl (by kernel_rfl) (by kernel_rfl) (fun j hj => ⟨_, _, by rw [List.getElem?_toArray]; exact a.get hj, by rw [List.getElem?_toArray]; exact b.get hj, rfl⟩) ?_
  have key : ∀ j, j < 8 → (ceq (a.cells.toArray.getD j undef) (b.cells.toArray.getD j undef) = true ↔ a.at j = b.at j) := fun j hj => by
    have h1 : a.cells.toArray.getD j undef = bv (a.at j) := by simp [Array.getD_eq_getD_getElem?, a.get hj]
    have h2 : b.cells.toArray.getD j undef = bv (b.at j) := by simp [Array.getD_eq_getD_getElem?, b.get hj]
    rw [h1, h2]
    simp only [ceq, beq_iff_eq]
    exact ⟨fun h => G.eq_of (by omega), fun h => by rw [h]⟩
  by_cases h : a = b
  · rw [decide_eq_true h, List.all_eq_true]
    intro j hj
    have hj8 : j < 8 := by simpa using hj
    exact (key j hj8).2 (by rw [h])
  · rw [decide_eq_false h, ← Bool.not_eq_true, List.all_eq_true]
    exact fun h2 => h (Blk.ext_at fun j hj => (key j hj).1 (h2 j (by simpa using hj)))
theorem blk_eq {a b : Blk} (h : a = b) : EqV Tryz.prog 41 (kv a) (kv b) true := by have := eqv_blk a b; rwa [decide_eq_true h] at this
theorem blk_ne {a b : Blk} (h : a ≠ b) : EqV Tryz.prog 41 (kv a) (kv b) false := by have := eqv_blk a b; rwa [decide_eq_false h] at this
def Agr {α : Type} [Inhabited α] (l m : List α) (k : Nat) : Prop := ∀ j, j < k → nth l j = nth m j
theorem Agr.zero {α : Type} [Inhabited α] (l m : List α) : Agr l m 0 := fun _ h => absurd h (by omega)
theorem Agr.succ {α : Type} [Inhabited α] {l m : List α} {k : Nat} (h : Agr l m k) (e : nth l k = nth m k) : Agr l m (k + 1) := fun j hj => by
  by_cases hk : j = k
  · rw [hk, e]
  · exact h j (by omega)
theorem Agr.all {α : Type} [Inhabited α] {l m : List α} (hl : l.length = m.length) (h : Agr l m l.length) : l = m := list_ext_nth hl h
set_option maxHeartbeats 1000000 in
theorem same_e (v1 v2 : Value) (a b : List Blk) (w : World) (h1 : Sl w 8 v1 a.length (kvs a)) (h2 : Sl w 8 v2 b.length (kvs b)) :
    Calls Tryz.prog 86 #[v1, v2] w fun e w' => e = .returned (.bool (decide (a = b))) ∧ Below w.heap.size w w' := by
  obtain ⟨A, c, rfl, hc, hm, hs⟩ := h1.open_
  obtain ⟨A2, c2, rfl, hc2, hm2, hs2⟩ := h2.open_
  unfold maxLen at hm
  by_cases hl : a.length = b.length
  · refine calls_wc (args := [.slice A a.length c, .slice A2 b.length c2]) [4] [] Tryz.func86 rfl Tryz.ntmps86 rfl rfl rfl rfl (H.refl w) ?_
    refine WC.seq fun K hK => ?_
    refine WC.region rfl ?_
    refine wAB rfl rfl rfl rfl rfl ?_
    refine WL.nil (hK _ _ ?_); clear hK
    refine WC.seq fun K hK => ?_
    refine WC.seq fun K hK => ?_
    refine WC.region rfl ?_
    refine wMS rfl rfl rfl rfl rfl ?_
    refine wG rfl rfl (g_len rfl (.mk rfl rfl) rfl) ?_
    refine wMS rfl rfl rfl rfl rfl ?_
    refine wG rfl rfl (g_len rfl (.mk rfl rfl) rfl) ?_
    refine wG rfl rfl (g_ne rfl (.mk rfl rfl) (.mk rfl rfl) (decide_eq_false (by omega))) ?_
    refine WL.nil (hK _ _ ?_); clear hK
    refine WC.cond_false (.mk rfl rfl) ?_
    refine WC.skip ?_
    (refine hK _ _ ?_; clear hK)
    refine WC.seq fun K hK => ?_
    refine WC.seq fun K hK => ?_
    refine WC.region rfl ?_
    refine wAI rfl rfl rfl rfl rfl ?_
    refine WL.nil (hK _ _ ?_); clear hK
    refine WC.block ?_
    refine WC.loop (67106864) (fun k : Nat => [(5, iv k)]) (fun _ => []) (fun k => k ≤ a.length ∧ Agr a b k) (fun k => a.length - k) 0 ⟨rfl, trivial⟩ (List.nil_sublist _) ⟨by omega, .zero _ _⟩ ?_
    rintro k U ⟨hk, hA⟩
    by_cases hlt : k < a.length
    · by_cases he : nth a k = nth b k
      · have E := blk_eq he
        refine WC.seq fun K hK => ?_
        refine WC.seq fun K hK => ?_
        refine WC.region rfl ?_
        refine wMI rfl rfl rfl rfl rfl ?_
        refine wMS rfl rfl rfl rfl rfl ?_
        refine wG rfl rfl (g_len rfl (.mk rfl rfl) rfl) ?_
        refine wG rfl rfl (g_lt rfl (.mk rfl rfl) (.mk rfl rfl) (decide_eq_true (by omega))) ?_
        refine WL.nil (hK _ _ ?_); clear hK
        refine WC.cond_true (.mk rfl rfl) ?_
        refine WC.skip ?_
        (refine hK _ _ ?_; clear hK)
        refine WC.seq fun K hK => ?_
        refine WC.block ?_
        refine WC.seq fun K hK => ?_
        refine WC.quiet rfl (by kernel_rfl) (by decide +kernel) ?_
        refine WQ.want rfl (WQ1.give rfl (g_move rfl (.mk (v := .slice _ _ _) rfl rfl)) ?_)
        refine WQ.want rfl (WQ1.give rfl (g_move rfl (.mk (v := .int _ _) rfl rfl)) ?_)
        refine WQ.want rfl (WQ1.give rfl (g_indexAddr (sz := 8) rfl (.mk rfl rfl) (.mk rfl rfl) rfl rfl rfl (by omega) (fun _ _ => sl_some hs (by omega))) ?_)
        refine WQ.want rfl (WQ1.give rfl (g_loadA rfl (.mk rfl rfl) rfl (sz8 _) (rdr_sl hs (by omega) (flat_row (by first | assumption | exact fun _ _ => rfl | exact blk8) (by omega)))) ?_)
        refine WQ.want rfl (WQ1.give rfl (g_move rfl (.mk (v := .slice _ _ _) rfl rfl)) ?_)
        refine WQ.want rfl (WQ1.give rfl (g_move rfl (.mk (v := .int _ _) rfl rfl)) ?_)
        refine WQ.want rfl (WQ1.give rfl (g_indexAddr (sz := 8) rfl (.mk rfl rfl) (.mk rfl rfl) rfl rfl rfl (by omega) (fun _ _ => sl_some hs2 (by omega))) ?_)
        refine WQ.want rfl (WQ1.give rfl (g_loadA rfl (.mk rfl rfl) rfl (sz8 _) (rdr_sl hs2 (by omega) (flat_row (by first | assumption | exact fun _ _ => rfl | exact blk8) (by omega)))) ?_)
        refine WQ.want rfl (WQ1.give rfl (g_ane (by kernel_rfl) rfl (.mk rfl rfl) (.mk rfl rfl) E) ?_)
        refine WQ.nil ?_
        (refine hK _ _ ?_; clear hK)
        refine WC.cond_false (.mk rfl rfl) ?_
        refine WC.skip ?_
        (refine hK _ _ ?_; clear hK)
        refine WC.region rfl ?_
        refine wMI rfl rfl rfl rfl rfl ?_
        refine wG rfl rfl (g_add rfl (.mk rfl rfl) (.mk rfl rfl) (IntWalk.i64_in _ (by omega))) ?_
        refine wAI rfl rfl rfl rfl rfl ?_
        refine WL.nil ?_
        exact ⟨k + 1, (by repeat (first | with_reducible exact Out.refl _ _ | refine Out.set rfl ?_ | refine Out.put rfl ?_ | refine Out.sets rfl ?_ | refine Out.hav rfl ?_ | exact Out.refl _ _)), ⟨rfl, trivial⟩, .refl _, ⟨by omega, hA.succ he⟩, by omega⟩
      · have E := blk_ne he
        refine WC.seq fun K hK => ?_
        refine WC.seq fun K hK => ?_
        refine WC.region rfl ?_
        refine wMI rfl rfl rfl rfl rfl ?_
        refine wMS rfl rfl rfl rfl rfl ?_
        refine wG rfl rfl (g_len rfl (.mk rfl rfl) rfl) ?_
        refine wG rfl rfl (g_lt rfl (.mk rfl rfl) (.mk rfl rfl) (decide_eq_true (by omega))) ?_
        refine WL.nil (hK _ _ ?_); clear hK
        refine WC.cond_true (.mk rfl rfl) ?_
        refine WC.skip ?_
        (refine hK _ _ ?_; clear hK)
        refine WC.seq fun K hK => ?_
        refine WC.block ?_
        refine WC.seq fun K hK => ?_
        refine WC.quiet rfl (by kernel_rfl) (by decide +kernel) ?_
        refine WQ.want rfl (WQ1.give rfl (g_move rfl (.mk (v := .slice _ _ _) rfl rfl)) ?_)
        refine WQ.want rfl (WQ1.give rfl (g_move rfl (.mk (v := .int _ _) rfl rfl)) ?_)
        refine WQ.want rfl (WQ1.give rfl (g_indexAddr (sz := 8) rfl (.mk rfl rfl) (.mk rfl rfl) rfl rfl rfl (by omega) (fun _ _ => sl_some hs (by omega))) ?_)
        refine WQ.want rfl (WQ1.give rfl (g_loadA rfl (.mk rfl rfl) rfl (sz8 _) (rdr_sl hs (by omega) (flat_row (by first | assumption | exact fun _ _ => rfl | exact blk8) (by omega)))) ?_)
        refine WQ.want rfl (WQ1.give rfl (g_move rfl (.mk (v := .slice _ _ _) rfl rfl)) ?_)
        refine WQ.want rfl (WQ1.give rfl (g_move rfl (.mk (v := .int _ _) rfl rfl)) ?_)
        refine WQ.want rfl (WQ1.give rfl (g_indexAddr (sz := 8) rfl (.mk rfl rfl) (.mk rfl rfl) rfl rfl rfl (by omega) (fun _ _ => sl_some hs2 (by omega))) ?_)
        refine WQ.want rfl (WQ1.give rfl (g_loadA rfl (.mk rfl rfl) rfl (sz8 _) (rdr_sl hs2 (by omega) (flat_row (by first | assumption | exact fun _ _ => rfl | exact blk8) (by omega)))) ?_)
        refine WQ.want rfl (WQ1.give rfl (g_ane (by kernel_rfl) rfl (.mk rfl rfl) (.mk rfl rfl) E) ?_)
        refine WQ.nil ?_
        (refine hK _ _ ?_; clear hK)
        refine WC.cond_true (.mk rfl rfl) ?_
        refine WC.seq fun K hK => ?_
        refine WC.region rfl ?_
        refine wAB rfl rfl rfl rfl rfl ?_
        refine WL.nil (hK _ _ ?_); clear hK
        refine WC.ret ?_
        exact fun w' hw' => ⟨by rw [decide_eq_false (fun h => he (by rw [h]))]; rfl, hw'.1⟩
    · obtain rfl : k = a.length := by omega
      refine WC.seq fun K hK => ?_
      refine WC.seq fun K hK => ?_
      refine WC.region rfl ?_
      refine wMI rfl rfl rfl rfl rfl ?_
      refine wMS rfl rfl rfl rfl rfl ?_
      refine wG rfl rfl (g_len rfl (.mk rfl rfl) rfl) ?_
      refine wG rfl rfl (g_lt rfl (.mk rfl rfl) (.mk rfl rfl) (decide_eq_false (by omega))) ?_
      refine WL.nil (hK _ _ ?_); clear hK
      refine WC.cond_false (.mk rfl rfl) ?_
      refine WC.exit ?_
      (clear hK; refine hK _ _ ?_; clear hK)
      refine WC.seq fun K hK => ?_
      refine WC.region rfl ?_
      refine wAB rfl rfl rfl rfl rfl ?_
      refine WL.nil (hK _ _ ?_); clear hK
      refine WC.ret ?_
      exact fun w' hw' => ⟨by rw [decide_eq_true (hA.all hl)]; rfl, hw'.1⟩
  · refine calls_wc (args := [.slice A a.length c, .slice A2 b.length c2]) [4] [] Tryz.func86 rfl Tryz.ntmps86 rfl rfl rfl rfl (H.refl w) ?_
    refine WC.seq fun K hK => ?_
    refine WC.region rfl ?_
    refine wAB rfl rfl rfl rfl rfl ?_
    refine WL.nil (hK _ _ ?_); clear hK
    refine WC.seq fun K hK => ?_
    refine WC.seq fun K hK => ?_
    refine WC.region rfl ?_
    refine wMS rfl rfl rfl rfl rfl ?_
    refine wG rfl rfl (g_len rfl (.mk rfl rfl) rfl) ?_
    refine wMS rfl rfl rfl rfl rfl ?_
    refine wG rfl rfl (g_len rfl (.mk rfl rfl) rfl) ?_
    refine wG rfl rfl (g_ne rfl (.mk rfl rfl) (.mk rfl rfl) (decide_eq_true (by omega))) ?_
    refine WL.nil (hK _ _ ?_); clear hK
    refine WC.cond_true (.mk rfl rfl) ?_
    refine WC.seq fun K hK => ?_
    refine WC.region rfl ?_
    refine wAB rfl rfl rfl rfl rfl ?_
    refine WL.nil (hK _ _ ?_); clear hK
    refine WC.ret ?_
    exact fun w' hw' => ⟨by rw [decide_eq_false (fun h => hl (by rw [h]))]; rfl, hw'.1⟩
end Go.Proofs.YtdcijljfgcjelaaGreat
namespace Go.Proofs.YtdcijljfgcjelaaGreat
set_option maxRecDepth 20000
open Go.RowKit
attribute [local irreducible] Calls
def rs (c : G) (ds : List Blk) : Nat → Blk
  | 0 => 0
  | i + 1 => rs c ds i + gpow c i * nth ds i
theorem nth_zero {α : Type} [Inhabited α] (a : α) (l : List α) : nth (a :: l) 0 = a := rfl
theorem nth_succ {α : Type} [Inhabited α] (a : α) (l : List α) (k : Nat) : nth (a :: l) (k + 1) = nth l k := by unfold nth; simp [List.getD_eq_getElem?_getD]
theorem rs_cons (c : G) (d : Blk) (ds : List Blk) : ∀ i, rs c (d :: ds) (i + 1) = d + c * rs c ds i
  | 0 => by rw [rs, rs, rs, nth_zero, gpow_zero, Blk.one_mul, Blk.mul_zero, Blk.add_zero, Blk.zero_add]
  | i + 1 => by
    rw [rs, rs_cons c d ds i, rs, nth_succ, Blk.mul_add, ← Blk.mul_mul, gpow_succ, G.mul_comm c, Blk.add_assoc]
theorem rs_hor (c : G) : ∀ ds : List Blk, rs c ds ds.length = hor c ds
  | [] => rfl
  | d :: ds => by rw [List.length_cons, rs_cons, rs_hor c ds]; rfl
theorem flat_put {α : Type} [Inhabited α] {enc : α → List Value} {sz : Nat} : ∀ {l : List α} {k j : Nat} {v : Value} {a' : α}, (∀ a ∈ l, (enc a).length = sz) → k < l.length → j < sz → enc a' = (enc (nth l k)).set j v → (l.flatMap enc).set (k * sz + j) v = (l.set k a').flatMap enc
  | [], k, _, _, _, _, hk, _, _ => absurd hk (by simp)
  | a :: l, 0, j, v, a', he, _, hj, ha => by
    rw [List.flatMap_cons, List.set_cons_zero, List.flatMap_cons, Nat.zero_mul, Nat.zero_add, List.set_append_left _ _ (by rw [he a (by simp)]; exact hj), ha, nth_zero]
  | a :: l, k + 1, j, v, a', he, hk, hj, ha => by
    have hl := he a (by simp)
    rw [List.flatMap_cons, List.set_cons_succ, List.flatMap_cons, List.set_append_right _ _ (by rw [hl, Nat.add_mul]; omega), hl, show (k + 1) * sz + j - sz = k * sz + j from by rw [Nat.add_mul]; omega,
      flat_put (fun b hb => he b (by simp [hb])) (by simpa using hk) hj (by rw [ha, nth_succ])]
theorem blk_put {l : List Blk} {q k i : Nat} {f g : Nat → G} {v : Value} (hq : q < l.length) (hk : k < 8) (hi : i = q * 8 + k) (hv : v = bv (f k)) : (kvs (l.set q (mix k f g))).set i v = kvs (l.set q (mix (k + 1) f g)) := by
  rw [hi, hv]
  have := flat_put (enc := Blk.cells) (sz := 8) (l := l.set q (mix k f g)) (k := q) (j := k) (v := bv (f k)) (a' := mix (k + 1) f g) blk8 (by rw [List.length_set]; exact hq) hk (by rw [nth_set_eq hq, if_pos rfl, mix_step f g hk])
  rw [List.set_set] at this
  exact this
theorem blk_get {l : List Blk} {q k i : Nat} (hq : q < l.length) (hk : k < 8) (hi : i = q * 8 + k) : (kvs l)[i]? = some (bv ((nth l q).at k)) := by
  rw [hi, flat_get blk8 hq hk, Blk.get _ hk]
def parP (j i : Nat) (ds : List Blk) : List Blk := (List.range 3).map fun q => if q < j then hor (gpow 2 q) ds else if q = j then rs (gpow 2 q) ds i else 0
theorem parP_len (j i : Nat) (ds : List Blk) : (parP j i ds).length = 3 := by simp [parP]
theorem parP_nth (j i : Nat) (ds : List Blk) {q : Nat} (h : q < 3) : nth (parP j i ds) q = if q < j then hor (gpow 2 q) ds else if q = j then rs (gpow 2 q) ds i else 0 := nth_range _ h
theorem parP_step {j i : Nat} {ds : List Blk} (h : j < 3) : (parP j i ds).set j (rs (gpow 2 j) ds (i + 1)) = parP j (i + 1) ds :=
  list_ext_nth (by rw [List.length_set, parP_len, parP_len]) fun q hq => by
    have hq3 : q < 3 := by rw [List.length_set, parP_len] at hq; exact hq
    rw [nth_set_eq (by rw [parP_len]; exact h), parP_nth _ _ _ hq3, parP_nth _ _ _ hq3]
    by_cases e : q = j
    · subst e; rw [if_pos rfl, if_neg (by omega), if_pos rfl]
    · rw [if_neg e, if_neg e, if_neg e]
theorem parP_next {j : Nat} {ds : List Blk} : parP j ds.length ds = parP (j + 1) 0 ds := List.map_congr_left fun q _ => by
  by_cases e : q = j
  · subst e; rw [if_neg (by omega), if_pos rfl, if_pos (by omega), rs_hor]
  · by_cases e2 : q < j
    · rw [if_pos e2, if_pos (by omega)]
    · rw [if_neg e2, if_neg e, if_neg (by omega)]
      by_cases e3 : q = j + 1
      · rw [if_pos e3]; rfl
      · rw [if_neg e3]
theorem parP_all (ds : List Blk) : parP 3 0 ds = enc ds := List.map_congr_left fun q hq => if_pos (by simpa using hq)
theorem madeP (ds : List Blk) : (madeCells (Value.agg z8.toArray).cells (3 * 8)).toList = kvs (parP 0 0 ds) := by
  rw [made3 ds]
  refine congrArg kvs (List.map_congr_left fun q _ => ?_)
  rw [if_neg (by omega), if_neg (by omega)]
  by_cases e : q = 0
  · rw [if_pos e]; rfl
  · rw [if_neg e]
theorem gpow_gpow (j i : Nat) : gpow (gpow 2 j) i = gpow 2 (j * i) := (gpow_mul 2 j i).symm
theorem set_self {α : Type} [Inhabited α] {l : List α} {k : Nat} {a : α} (hk : k < l.length) (h : nth l k = a) : l.set k a = l :=
  list_ext_nth (by rw [List.length_set]) fun j _ => by
    rw [nth_set_eq hk]
    by_cases e : j = k
    · rw [if_pos e, e, h]
    · rw [if_neg e]
theorem subV {A : Option Addr} {m c sz : Nat} {e : TypeId} {xs ys : List Value} {L M : List Asrt} (h : xs = ys) (hL : L.Sublist M) : (vec A m c e sz ys :: L).Sublist (vec A m c e sz xs :: M) := by rw [h]; exact .cons_cons _ hL
set_option maxHeartbeats 1000000 in
theorem parity_n (v : Value) (ds : List Blk) (w : World) (hv : Sl w 8 v ds.length (kvs ds)) (h2 : ds.length ≤ 1000) : Calls Tryz.prog 31 #[v] w fun e w' => ∃ v' M, e = .returned v' ∧ H w M w' ∧
    ∃ b, v' = .slice (some ⟨b, 0, none⟩) 3 3 ∧ M = [vec (some ⟨b, 0, none⟩) 3 3 41 8 (kvs (enc ds))] := by
  obtain ⟨A, c, rfl, hc, hm, hs⟩ := hv.open_
  refine calls_wc (args := [.slice A ds.length c]) [2] [] Tryz.func31 rfl Tryz.ntmps31 rfl rfl rfl rfl (H.refl w) ?_
  refine WC.seq fun K hK => ?_
  refine WC.region rfl ?_
  refine wAS rfl rfl rfl rfl rfl ?_
  refine WL.nil (hK _ _ ?_); clear hK
  refine WC.seq fun K hK => ?_
  refine WC.region rfl ?_
  refine WL.want rfl (WL1.make elK rfl rfl (.mk rfl rfl) (.mk rfl rfl) (Int.toNat_of_nonneg (by omega)).symm (Int.toNat_of_nonneg (by omega)).symm (by omega) (by unfold maxLen; omega) (fun b8 => ?_))
  refine wAS rfl rfl rfl rfl rfl ?_
  refine WL.nil (hK _ _ ?_); clear hK
  refine WC.seq fun K hK => ?_
  refine WC.seq fun K hK => ?_
  refine WC.region rfl ?_
  refine wAI rfl rfl rfl rfl rfl ?_
  refine WL.nil (hK _ _ ?_); clear hK
  refine WC.block ?_
  refine WC.loop (17592186044144) (fun j : Nat => [(4, iv j)]) (fun j => [vec (some ⟨b8, 0, none⟩) 3 3 41 8 (kvs (parP j 0 ds))]) (fun j => j ≤ 3) (fun j => 3 - j) 0 ⟨rfl, trivial⟩ (by rw [← madeP ds]; exact .refl _) (by omega) ?_
  intro j U hj
  by_cases hlt : j < 3
  · refine WC.seq fun K hK => ?_
    refine WC.seq fun K hK => ?_
    refine WC.region rfl ?_
    refine wMI rfl rfl rfl rfl rfl ?_
    refine wG rfl rfl (g_lt rfl (.mk rfl rfl) (.mk rfl rfl) (decide_eq_true (by omega))) ?_
    refine WL.nil (hK _ _ ?_); clear hK
    refine WC.cond_true (.mk rfl rfl) ?_
    refine WC.skip ?_
    (refine hK _ _ ?_; clear hK)
    refine WC.seq fun K hK => ?_
    refine WC.block ?_
    refine WC.seq fun K hK => ?_
    refine WC.region rfl ?_
    refine wAI rfl rfl rfl rfl rfl ?_
    refine WL.nil (hK _ _ ?_); clear hK
    refine WC.block ?_
    refine WC.loop (17592186036448) (fun i : Nat => [(5, iv i)]) (fun i => [vec (some ⟨b8, 0, none⟩) 3 3 41 8 (kvs (parP j i ds))]) (fun i => i ≤ ds.length) (fun i => ds.length - i) 0 ⟨rfl, trivial⟩ (.refl _) (by omega) ?_
    intro i V hi
    by_cases hlt2 : i < ds.length
    · have hji : j * i ≤ 3000 := Nat.le_trans (Nat.mul_le_mul (by omega : j ≤ 3) (by omega : i ≤ 1000)) (by omega)
      have hmul : IntKind.i64.wrap ((j : Int) * (i : Int)) = ((j * i : Nat) : Int) := by rw [← Int.natCast_mul]; exact IntWalk.i64_in _ (by omega)
      have hpw : ∀ w, Calls Tryz.prog 84 #[bv 2, iv (j * i : Nat)] w fun e w' => e = .returned (bv (gpow 2 (j * i))) ∧ w' = w := fun w => (rpower_any 2 (j * i : Nat) (by omega) w).mono fun _ _ ⟨h1, h2⟩ => ⟨by rw [h1, Int.toNat_natCast], h2.symm⟩
      refine WC.seq fun K hK => ?_
      refine WC.seq fun K hK => ?_
      refine WC.region rfl ?_
      refine wMI rfl rfl rfl rfl rfl ?_
      refine wMS rfl rfl rfl rfl rfl ?_
      refine wG rfl rfl (g_len rfl (.mk rfl rfl) rfl) ?_
      refine wG rfl rfl (g_lt rfl (.mk rfl rfl) (.mk rfl rfl) (decide_eq_true (by omega))) ?_
      refine WL.nil (hK _ _ ?_); clear hK
      refine WC.cond_true (.mk rfl rfl) ?_
      refine WC.skip ?_
      (refine hK _ _ ?_; clear hK)
      refine WC.seq fun K hK => ?_
      refine WC.block ?_
      refine WC.seq fun K hK => ?_
      refine WC.region rfl ?_
      refine wMI rfl rfl rfl rfl rfl ?_
      refine wMI rfl rfl rfl rfl rfl ?_
      refine wG rfl rfl (g_mul rfl (.mk rfl rfl) (.mk rfl rfl) hmul) ?_
      refine WL.want rfl (WL1.callP rfl rfl rfl (.cons (.mk (v := .int _ _) rfl rfl) (.cons (.mk (v := .int _ _) rfl rfl) .nil)) (fun w hw => Calls.belowS (hpw w)) ?_)
      refine wAI rfl rfl rfl rfl rfl ?_
      refine WL.nil (hK _ _ ?_); clear hK
      refine WC.seq fun K hK => ?_
      refine WC.region rfl ?_
      refine wAI rfl rfl rfl rfl rfl ?_
      refine WL.nil (hK _ _ ?_); clear hK
      refine WC.block ?_
      obtain ⟨f, hf⟩ : ∃ f : Nat → G, f = fun q => (rs (gpow 2 j) ds i).at q + gpow 2 (j * i) * (nth ds i).at q := ⟨_, rfl⟩
      obtain ⟨g, hg⟩ : ∃ g : Nat → G, g = fun q => (rs (gpow 2 j) ds i).at q := ⟨_, rfl⟩
      have hpl := parP_len j i ds
      refine WC.loop (17592177655936) (fun k : Nat => [(7, iv k)]) (fun k => [vec (some ⟨b8, 0, none⟩) 3 3 41 8 (kvs ((parP j i ds).set j (mix k f g)))]) (fun k => k ≤ 8) (fun k => 8 - k) 0 ⟨rfl, trivial⟩ (by rw [mix_zero, hg, Blk.of_eta, set_self (by omega) (by rw [parP_nth _ _ _ hlt, if_neg (by omega), if_pos rfl])]; exact .refl _) (by omega) ?_
      intro k W hk
      by_cases hlt3 : k < 8
      · have hgk : (kvs ((parP j i ds).set j (mix k f g)))[j * 8 + k * 1]? = some (bv (g k)) := by
          rw [blk_get (q := j) (k := k) (by rw [List.length_set]; omega) hlt3 (by omega), nth_set_eq (by omega), if_pos rfl, mix_at _ _ hlt3, if_neg (by omega)]
        have hlx : (kvs ((parP j i ds).set j (mix k f g))).length = 3 * 8 := by rw [flat_len blk8, List.length_set, hpl]
        refine WC.seq fun K hK => ?_
        refine WC.seq fun K hK => ?_
        refine WC.region rfl ?_
        refine wMI rfl rfl rfl rfl rfl ?_
        refine wG rfl rfl (g_lt rfl (.mk rfl rfl) (.mk rfl rfl) (decide_eq_true (by omega))) ?_
        refine WL.nil (hK _ _ ?_); clear hK
        refine WC.cond_true (.mk rfl rfl) ?_
        refine WC.skip ?_
        (refine hK _ _ ?_; clear hK)
        refine WC.seq fun K hK => ?_
        refine WC.block ?_
        refine WC.split 17 rfl (by kernel_rfl) (by decide +kernel) ?_
        refine WQ.want rfl (WQ1.give rfl (g_move rfl (.mk (v := .slice _ _ _) rfl rfl)) ?_)
        refine WQ.want rfl (WQ1.give rfl (g_move rfl (.mk (v := .int _ _) rfl rfl)) ?_)
        refine WQ.want rfl (WQ1.give rfl (g_move rfl (.mk (v := .int _ _) rfl rfl)) ?_)
        refine WQ.want rfl (WQ1.give rfl (g_indexAddr (sz := 8) rfl (.mk rfl rfl) (.mk rfl rfl) rfl rfl rfl (by omega) (fun _ _ => rfl)) ?_)
        refine WQ.want rfl (WQ1.give rfl (g_indexAddrA (sz := 1) rfl (.mk rfl rfl) (.mk rfl rfl) rfl rfl rfl (by omega) (fun _ _ => rfl)) ?_)
        refine WQ.want rfl (WQ1.give rfl (g_load rfl (.mk rfl rfl) rfl (rd_vec (.head _) hgk)) ?_)
        refine WQ.want rfl (WQ1.give rfl (g_move rfl (.mk (v := .int _ _) rfl rfl)) ?_)
        refine WQ.want rfl (WQ1.give rfl (g_move rfl (.mk (v := .slice _ _ _) rfl rfl)) ?_)
        refine WQ.want rfl (WQ1.give rfl (g_move rfl (.mk (v := .int _ _) rfl rfl)) ?_)
        refine WQ.want rfl (WQ1.give rfl (g_move rfl (.mk (v := .int _ _) rfl rfl)) ?_)
        refine WQ.want rfl (WQ1.give rfl (g_indexAddr (sz := 8) rfl (.mk rfl rfl) (.mk rfl rfl) rfl rfl rfl (by omega) (fun _ _ => sl_some hs (by omega))) ?_)
        refine WQ.want rfl (WQ1.give rfl (g_indexAddrA (sz := 1) rfl (.mk rfl rfl) (.mk rfl rfl) rfl rfl rfl (by omega) (fun _ _ => sl_some hs (by omega))) ?_)
        refine WQ.want rfl (WQ1.give rfl (g_load rfl (.mk rfl rfl) rfl (rd_sl hs (blk_get hlt2 hlt3 (by omega)))) ?_)
        refine WQ.want rfl (WQ1.callP rfl rfl rfl (.cons (.mk (v := .int _ _) rfl rfl) (.cons (.mk (v := .int _ _) rfl rfl) .nil)) (fun w hw => Calls.belowS ((rmul_any _ _ w).mono fun _ _ ⟨h1, h2⟩ => ⟨h1, h2.symm⟩)) ?_)
        refine WQ.want rfl (WQ1.give rfl (g_xor (k := .u8) rfl (.mk rfl rfl) (.mk rfl rfl) (xor_u8 _ _)) ?_)
        refine WQ.want rfl (WQ1.give rfl (g_indexAddr (sz := 8) rfl (.mk rfl rfl) (.mk rfl rfl) rfl rfl rfl (by omega) (fun _ _ => rfl)) ?_)
        refine WQ.want rfl (WQ1.give rfl (g_indexAddrA (sz := 1) rfl (.mk rfl rfl) (.mk rfl rfl) rfl rfl rfl (by omega) (fun _ _ => rfl)) ?_)
        refine WQ.nil ?_
        refine WY.one 17 (by decide +kernel) rfl rfl ?_
        refine WL1.storeV1 rfl rfl (.mk rfl rfl) (.mk rfl rfl) rfl rfl (by first | omega | (simp; done) | (simp; omega)) (.head) ?_
        refine WL.nil ?_
        refine WY.done (by decide +kernel) ?_
        (refine hK _ _ ?_; clear hK)
        refine WC.region rfl ?_
        refine wMI rfl rfl rfl rfl rfl ?_
        refine wG rfl rfl (g_add rfl (.mk rfl rfl) (.mk rfl rfl) (IntWalk.i64_in _ (by omega))) ?_
        refine wAI rfl rfl rfl rfl rfl ?_
        refine WL.nil ?_
        exact ⟨k + 1, (by repeat (first | with_reducible exact Out.refl _ _ | refine Out.set rfl ?_ | refine Out.put rfl ?_ | refine Out.sets rfl ?_ | refine Out.hav rfl ?_ | exact Out.refl _ _)), ⟨rfl, trivial⟩, subV (blk_put (by omega) hlt3 (by omega) (by rw [hf, hg]; rfl)) (.refl _), by omega, by omega⟩
      · obtain rfl : k = 8 := by omega
        have hfin : (parP j i ds).set j (mix 8 f g) = parP j (i + 1) ds := by
          rw [← parP_step hlt]
          congr 1
          rw [mix_all, hf, rs, gpow_gpow]
          exact Blk.ext_at fun q hq => by rw [Blk.of_at _ hq, Blk.add_at _ _ hq, Blk.mul_at _ _ hq]
        rw [hfin]
        refine WC.seq fun K hK => ?_
        refine WC.seq fun K hK => ?_
        refine WC.region rfl ?_
        refine wMI rfl rfl rfl rfl rfl ?_
        refine wG rfl rfl (g_lt rfl (.mk rfl rfl) (.mk rfl rfl) (decide_eq_false (by omega))) ?_
        refine WL.nil (hK _ _ ?_); clear hK
        refine WC.cond_false (.mk rfl rfl) ?_
        refine WC.exit ?_
        (clear hK; refine hK _ _ ?_; clear hK)
        refine WC.region rfl ?_
        refine wMI rfl rfl rfl rfl rfl ?_
        refine wG rfl rfl (g_add rfl (.mk rfl rfl) (.mk rfl rfl) (IntWalk.i64_in _ (by omega))) ?_
        refine wAI rfl rfl rfl rfl rfl ?_
        refine WL.nil ?_
        exact ⟨i + 1, (by repeat (first | with_reducible exact Out.refl _ _ | refine Out.set rfl ?_ | refine Out.put rfl ?_ | refine Out.sets rfl ?_ | refine Out.hav rfl ?_ | exact Out.refl _ _)), ⟨rfl, trivial⟩, .refl _, by omega, by omega⟩
    · obtain rfl : i = ds.length := by omega
      refine WC.seq fun K hK => ?_
      refine WC.seq fun K hK => ?_
      refine WC.region rfl ?_
      refine wMI rfl rfl rfl rfl rfl ?_
      refine wMS rfl rfl rfl rfl rfl ?_
      refine wG rfl rfl (g_len rfl (.mk rfl rfl) rfl) ?_
      refine wG rfl rfl (g_lt rfl (.mk rfl rfl) (.mk rfl rfl) (decide_eq_false (by omega))) ?_
      refine WL.nil (hK _ _ ?_); clear hK
      refine WC.cond_false (.mk rfl rfl) ?_
      refine WC.exit ?_
      (clear hK; refine hK _ _ ?_; clear hK)
      refine WC.region rfl ?_
      refine wMI rfl rfl rfl rfl rfl ?_
      refine wG rfl rfl (g_add rfl (.mk rfl rfl) (.mk rfl rfl) (IntWalk.i64_in _ (by omega))) ?_
      refine wAI rfl rfl rfl rfl rfl ?_
      refine WL.nil ?_
      exact ⟨j + 1, (by repeat (first | with_reducible exact Out.refl _ _ | refine Out.set rfl ?_ | refine Out.put rfl ?_ | refine Out.sets rfl ?_ | refine Out.hav rfl ?_ | exact Out.refl _ _)), ⟨rfl, trivial⟩, by rw [← parP_next]; exact .refl _, by omega, by omega⟩
  · obtain rfl : j = 3 := by omega
    refine WC.seq fun K hK => ?_
    refine WC.seq fun K hK => ?_
    refine WC.region rfl ?_
    refine wMI rfl rfl rfl rfl rfl ?_
    refine wG rfl rfl (g_lt rfl (.mk rfl rfl) (.mk rfl rfl) (decide_eq_false (by omega))) ?_
    refine WL.nil (hK _ _ ?_); clear hK
    refine WC.cond_false (.mk rfl rfl) ?_
    refine WC.exit ?_
    (clear hK; refine hK _ _ ?_; clear hK)
    refine WC.seq fun K hK => ?_
    refine WC.region rfl ?_
    refine wMS rfl rfl rfl rfl rfl ?_
    refine wAS rfl rfl rfl rfl rfl ?_
    refine WL.nil (hK _ _ ?_); clear hK
    refine WC.ret ?_
    exact fun w' hw' => ⟨_, _, rfl, hw', b8, rfl, by rw [← parP_all]⟩
end Go.Proofs.YtdcijljfgcjelaaGreat
namespace Go.Proofs.YtdcijljfgcjelaaGreat
set_option maxRecDepth 20000
open Go.RowKit
attribute [local irreducible] Calls
theorem kvs_one (l : List Blk) : ∀ u ∈ kvs l, u.oneCell' = true := fun u hu => by
  obtain ⟨b, _, hb⟩ := List.mem_flatMap.1 hu
  exact b.one u hb
theorem kvs_app (a b : List Blk) : kvs a ++ kvs b = kvs (a ++ b) := List.flatMap_append.symm
theorem kvs_len (l : List Blk) : (kvs l).length = l.length * 8 := flat_len blk8
theorem kvs_drop : ∀ (ds : List Blk) (l : Nat), (kvs ds).drop (l * 8) = kvs (ds.drop l)
  | ds, 0 => by simp
  | [], l + 1 => by simp
  | d :: ds, l + 1 => by
    rw [List.drop_succ_cons, ← kvs_drop ds l, kvs, List.flatMap_cons, List.drop_append, d.len, List.drop_eq_nil_of_le (by rw [d.len]; omega), List.nil_append, show (l + 1) * 8 - 8 = l * 8 from by omega]
theorem kvs_take : ∀ (ds : List Blk) (l : Nat), (kvs ds).take (l * 8) = kvs (ds.take l)
  | ds, 0 => by simp
  | [], l + 1 => by simp
  | d :: ds, l + 1 => by
    rw [List.take_succ_cons, kvs, List.flatMap_cons, List.take_append, d.len, List.take_of_length_le (by rw [d.len]; omega), show (l + 1) * 8 - 8 = l * 8 from by omega, kvs_take ds l]
    rfl
theorem Sl.blks {w : World} {m c l h : Nat} {A : Option Addr} {ds : List Blk} (hs : Sl w 8 (.slice A m c) m (kvs ds)) (hd : ds.length = m) (hl : l ≤ h) (hh : h ≤ m) : Sl w 8 (.slice (subA A c l 8) (h - l) (c - l)) ((ds.drop l).take (h - l)).length (kvs ((ds.drop l).take (h - l))) := by
  have := hs.sub hl hh
  rw [kvs_drop, kvs_take] at this
  rw [List.length_take, List.length_drop, Nat.min_eq_left (by omega)]
  exact this
set_option maxHeartbeats 1000000 in
theorem group_n (v : Value) (ds : List Blk) (w : World) (hv : Sl w 8 v ds.length (kvs ds)) (h2 : ds.length ≤ 1000) : Calls Tryz.prog 87 #[v] w fun e w' => ∃ v' M, e = .returned v' ∧ H w M w' ∧
    ∃ A c, v' = .slice A (ds.length + 3) c ∧ M = [vec A (ds.length + 3) c 41 8 (kvs (ds ++ enc ds))] := by
  obtain ⟨A, c, rfl, hc, hm, hs⟩ := hv.open_
  refine calls_wc (args := [.slice A ds.length c]) [2] [] Tryz.func87 rfl Tryz.ntmps87 rfl rfl rfl rfl (H.refl w) ?_
  refine WC.seq fun K hK => ?_
  refine WC.region rfl ?_
  refine wAS rfl rfl rfl rfl rfl ?_
  refine WL.nil (hK _ _ ?_); clear hK
  refine WC.seq fun K hK => ?_
  refine WC.region rfl ?_
  refine WL.want rfl (WL1.lit (cs := []) elK rfl rfl rfl .nil rfl (by simp [Value.cells]) rfl rfl (fun b3 => ?_))
  refine wMS rfl rfl rfl rfl rfl ?_
  refine WL.want rfl (WL1.append elK rfl rfl (.mk rfl rfl) (.mk rfl rfl) (.head) (fun w hw => Sl.below hs hw.1) (kvs_one _) (by unfold maxLen; omega) (by omega) (fun A5 c5 => ?_))
  refine wMS rfl rfl rfl rfl rfl ?_
  (refine WL.want rfl (WL1.callN rfl rfl rfl (.cons (.mk (v := .slice _ _ _) rfl rfl) .nil) (fun w hw => parity_n _ ds w (hv.below hw.1) h2) ?_); rintro _ _ ⟨bp, rfl, rfl⟩)
  refine WL.want rfl (WL1.append elK rfl rfl (.mk rfl rfl) (.mk rfl rfl) (.tail (.head)) (fun w hw => Sl.of_vec hw (.head _)) (kvs_one _) (by unfold maxLen; omega) (by omega) (fun A8 c8 => ?_))
  refine wAS rfl rfl rfl rfl rfl ?_
  refine WL.nil (hK _ _ ?_); clear hK
  refine WC.ret ?_
  exact fun w' hw' => ⟨_, _, rfl, hw'.sub (.cons_cons _ (List.nil_sublist _)), A8, c8, by show Value.slice A8 (0 + ds.length + 3) c8 = _; rw [Nat.zero_add], by rw [Nat.zero_add, List.nil_append, kvs_app]⟩
set_option maxHeartbeats 1000000 in
theorem clone_n (v : Value) (ds : List Blk) (w : World) (hv : Sl w 8 v ds.length (kvs ds)) (h1 : 1 ≤ ds.length) (h2 : ds.length ≤ 1000) : Calls Tryz.prog 40 #[v] w fun e w' => ∃ v' M, e = .returned v' ∧ H w M w' ∧
    ∃ A c, v' = .slice A ds.length c ∧ M = [vec A ds.length c 41 8 (kvs ds)] := by
  obtain ⟨A, c, rfl, hc, hm, hs⟩ := hv.open_
  have hA := sl_some hs (by omega)
  refine calls_wc (args := [.slice A ds.length c]) [2] [] Tryz.func40 rfl Tryz.ntmps40 rfl rfl rfl rfl (H.refl w) ?_
  refine WC.seq fun K hK => ?_
  refine WC.region rfl ?_
  refine wAS rfl rfl rfl rfl rfl ?_
  refine WL.nil (hK _ _ ?_); clear hK
  refine WC.seq fun K hK => ?_
  refine WC.seq fun K hK => ?_
  refine WC.region rfl ?_
  refine wMS rfl rfl rfl rfl rfl ?_
  refine wG rfl rfl (g_eqSNS rfl rfl (.mk rfl rfl) (.mk rfl rfl) ((fun _ _ => sl_some hs (by omega)))) ?_
  refine WL.nil (hK _ _ ?_); clear hK
  refine WC.cond_false (.mk rfl rfl) ?_
  refine WC.skip ?_
  (refine hK _ _ ?_; clear hK)
  refine WC.seq fun K hK => ?_
  refine WC.region rfl ?_
  refine WL.want rfl (WL1.lit (cs := []) elK rfl rfl rfl .nil rfl (by simp [Value.cells]) rfl rfl (fun b5 => ?_))
  refine wMS rfl rfl rfl rfl rfl ?_
  refine WL.want rfl (WL1.append elK rfl rfl (.mk rfl rfl) (.mk rfl rfl) (.head) (fun w hw => Sl.below hs hw.1) (kvs_one _) (by unfold maxLen; omega) (by omega) (fun A7 c7 => ?_))
  refine wAS rfl rfl rfl rfl rfl ?_
  refine WL.nil (hK _ _ ?_); clear hK
  refine WC.ret ?_
  exact fun w' hw' => ⟨_, _, rfl, hw', A7, c7, by show Value.slice A7 (0 + ds.length) c7 = _; rw [Nat.zero_add], by rw [Nat.zero_add, List.nil_append]⟩
def isGroup (ps : List Blk) : Bool := decide (4 ≤ ps.length ∧ ps.length ≤ 16 ∧ enc (ps.take (ps.length - 3)) = ps.drop (ps.length - 3))
theorem isGroup_at {ps : List Blk} {n : Nat} (h : ps.length = n + 3) (h1 : 4 ≤ ps.length) (h2 : ps.length ≤ 16) : isGroup ps = decide (enc (ps.take n) = ps.drop n) := by
  unfold isGroup
  rw [show ps.length - 3 = n from by omega]
  exact decide_eq_decide.2 ⟨fun h => h.2.2, fun h => ⟨h1, h2, h⟩⟩
theorem isGroup_same {ps : List Blk} {n : Nat} (h : ps.length = n + 3) (h1 : 4 ≤ ps.length) (h2 : ps.length ≤ 16) : decide (ps = ps.take n ++ enc (ps.take n)) = isGroup ps := by
  rw [isGroup_at h h1 h2]
  refine decide_eq_decide.2 ⟨fun e => ?_, fun e => ?_⟩
  · have h3 : ps.take n ++ ps.drop n = ps.take n ++ enc (ps.take n) := by rw [List.take_append_drop]; exact e
    exact (List.append_cancel_left h3).symm
  · rw [e, List.take_append_drop]
set_option maxHeartbeats 1000000 in
theorem rcheck_e (v : Value) (ps : List Blk) (w : World) (hv : Sl w 8 v ps.length (kvs ps)) (h2 : ps.length ≤ 1000) : Calls Tryz.prog 33 #[v] w fun e w' => e = .returned (.bool (isGroup ps)) ∧ Below w.heap.size w w' := by
  obtain ⟨A, c, rfl, hc, hm, hs⟩ := hv.open_
  by_cases hn : 4 ≤ ps.length ∧ ps.length ≤ 16
  · obtain ⟨hn1, hn2⟩ := hn
    obtain ⟨n, hn⟩ : ∃ n, ps.length = n + 3 := ⟨ps.length - 3, by omega⟩
    have hp := hs.blks (l := 0) (h := n) rfl (by omega) (by omega)
    rw [List.drop_zero, Nat.sub_zero] at hp
    have hlp : (ps.take n).length = n := by rw [List.length_take]; omega
    have hlg : (ps.take n ++ enc (ps.take n)).length = (ps.take n).length + 3 := by rw [List.length_append]; rfl
    have hsub : IntKind.i64.wrap ((ps.length : Int) - 3) = (n : Int) := by rw [IntWalk.i64_in _ (by omega)]; omega
    refine calls_wc (args := [.slice A ps.length c]) [2] [] Tryz.func33 rfl Tryz.ntmps33 rfl rfl rfl rfl (H.refl w) ?_
    refine WC.seq fun K hK => ?_
    refine WC.region rfl ?_
    refine wAB rfl rfl rfl rfl rfl ?_
    refine WL.nil (hK _ _ ?_); clear hK
    refine WC.seq fun K hK => ?_
    refine WC.region rfl ?_
    refine wMS rfl rfl rfl rfl rfl ?_
    refine wG rfl rfl (g_len rfl (.mk rfl rfl) rfl) ?_
    refine wAI rfl rfl rfl rfl rfl ?_
    refine WL.nil (hK _ _ ?_); clear hK
    refine WC.seq fun K hK => ?_
    refine WC.region rfl ?_
    refine wMI rfl rfl rfl rfl rfl ?_
    refine wG rfl rfl (g_ge rfl (.mk rfl rfl) (.mk rfl rfl) (decide_eq_true (by omega))) ?_
    refine wMB rfl rfl rfl rfl rfl ?_
    refine WL.wantG rfl rfl rfl rfl (WL1.give rfl (g_move rfl (.mk (v := .int _ _) rfl rfl)) ?_)
    refine WL.wantG rfl rfl rfl rfl (WL1.give rfl (g_le rfl (.mk rfl rfl) (.mk rfl rfl) (decide_eq_true (by omega))) ?_)
    refine wG rfl rfl (g_pickT rfl (.mk rfl rfl) (.mk (v := .bool _) rfl rfl)) ?_
    refine wMB rfl rfl rfl rfl rfl ?_
    refine WL.wantG rfl rfl rfl rfl (WL1.give rfl (g_move rfl (.mk (v := .slice _ _ _) rfl rfl)) ?_)
    refine WL.wantG rfl rfl rfl rfl (WL1.give rfl (g_move rfl (.mk (v := .slice _ _ _) rfl rfl)) ?_)
    refine WL.wantG rfl rfl rfl rfl (WL1.give rfl (g_move rfl (.mk (v := .int _ _) rfl rfl)) ?_)
    refine WL.wantG rfl rfl rfl rfl (WL1.give rfl (g_sub (r := (n : Int)) rfl (.mk rfl rfl) (.mk rfl rfl) hsub) ?_)
    refine WL.wantG rfl rfl rfl rfl (WL1.give rfl (g_slice (sz := 8) (kl := .i64) (p := 0) rfl (.mk rfl rfl) rfl rfl rfl ⟨(.mk rfl rfl), rfl⟩ (by omega) (by omega)) ?_)
    (refine WL.wantG rfl rfl rfl rfl (WL1.callN rfl rfl rfl (.cons (.mk (v := .slice _ _ _) rfl rfl) .nil) (fun w hw => group_n _ (ps.take n) w (hp.below hw.1) (by omega)) ?_); rintro _ _ ⟨Ag, cg, rfl, rfl⟩)
    refine WL.wantG rfl rfl rfl rfl (WL1.callP rfl rfl rfl (.cons (.mk (v := .slice _ _ _) rfl rfl) (.cons (.mk (v := .slice _ _ _) rfl rfl) .nil)) (fun w hw => same_e _ _ ps (ps.take n ++ enc (ps.take n)) w (hs.below hw.1) (by rw [hlg]; exact Sl.of_vec hw (.head _))) ?_)
    refine wG rfl rfl (g_pickT rfl (.mk rfl rfl) (.mk (v := .bool _) rfl rfl)) ?_
    refine wAB rfl rfl rfl rfl rfl ?_
    refine WL.nil (hK _ _ ?_); clear hK
    refine WC.ret ?_
    exact fun w' hw' => ⟨by rw [← isGroup_same hn hn1 hn2]; rfl, hw'.1⟩
  · refine calls_wc (args := [.slice A ps.length c]) [2] [] Tryz.func33 rfl Tryz.ntmps33 rfl rfl rfl rfl (H.refl w) ?_
    refine WC.seq fun K hK => ?_
    refine WC.region rfl ?_
    refine wAB rfl rfl rfl rfl rfl ?_
    refine WL.nil (hK _ _ ?_); clear hK
    refine WC.seq fun K hK => ?_
    refine WC.region rfl ?_
    refine wMS rfl rfl rfl rfl rfl ?_
    refine wG rfl rfl (g_len rfl (.mk rfl rfl) rfl) ?_
    refine wAI rfl rfl rfl rfl rfl ?_
    refine WL.nil (hK _ _ ?_); clear hK
    refine WC.seq fun K hK => ?_
    refine WC.region rfl ?_
    refine wMI rfl rfl rfl rfl rfl ?_
    refine WL.want rfl (WL1.giveD rfl (g_ge rfl (.mk rfl rfl) (.mk rfl rfl) rfl) (fun _ => ?_) (fun _ => ?_))
    refine wMB rfl rfl rfl rfl rfl ?_
    refine WL.wantG rfl rfl rfl rfl (WL1.give rfl (g_move rfl (.mk (v := .int _ _) rfl rfl)) ?_)
    refine WL.wantG rfl rfl rfl rfl (WL1.give rfl (g_le rfl (.mk rfl rfl) (.mk rfl rfl) (decide_eq_false (by omega))) ?_)
    refine wG rfl rfl (g_pickT rfl (.mk rfl rfl) (.mk (v := .bool _) rfl rfl)) ?_
    refine wMB rfl rfl rfl rfl rfl ?_
    refine WL.skipG rfl rfl rfl rfl rfl rfl ?_
    refine WL.skipG rfl rfl rfl rfl rfl rfl ?_
    refine WL.skipG rfl rfl rfl rfl rfl rfl ?_
    refine WL.skipG rfl rfl rfl rfl rfl rfl ?_
    refine WL.skipG rfl rfl rfl rfl rfl rfl ?_
    refine WL.skipG rfl rfl rfl rfl rfl rfl ?_
    refine WL.skipG rfl rfl rfl rfl rfl rfl ?_
    refine wG rfl rfl (g_pickF rfl (.mk rfl rfl) (.mk (v := .bool _) rfl rfl)) ?_
    refine wAB rfl rfl rfl rfl rfl ?_
    refine WL.nil (hK _ _ ?_); clear hK
    refine WC.ret ?_
    rotate_left
    refine wMB rfl rfl rfl rfl rfl ?_
    refine WL.skipG rfl rfl rfl rfl rfl rfl ?_
    refine WL.skipG rfl rfl rfl rfl rfl rfl ?_
    refine wG rfl rfl (g_pickF rfl (.mk rfl rfl) (.mk (v := .bool _) rfl rfl)) ?_
    refine wMB rfl rfl rfl rfl rfl ?_
    refine WL.skipG rfl rfl rfl rfl rfl rfl ?_
    refine WL.skipG rfl rfl rfl rfl rfl rfl ?_
    refine WL.skipG rfl rfl rfl rfl rfl rfl ?_
    refine WL.skipG rfl rfl rfl rfl rfl rfl ?_
    refine WL.skipG rfl rfl rfl rfl rfl rfl ?_
    refine WL.skipG rfl rfl rfl rfl rfl rfl ?_
    refine WL.skipG rfl rfl rfl rfl rfl rfl ?_
    refine wG rfl rfl (g_pickF rfl (.mk rfl rfl) (.mk (v := .bool _) rfl rfl)) ?_
    refine wAB rfl rfl rfl rfl rfl ?_
    refine WL.nil (hK _ _ ?_); clear hK
    refine WC.ret ?_
    rotate_left
    all_goals exact fun w' hw' => ⟨by rw [isGroup, decide_eq_false (fun h => hn ⟨h.1, h.2.1⟩)]; rfl, hw'.1⟩
end Go.Proofs.YtdcijljfgcjelaaGreat
namespace Go.Proofs.YtdcijljfgcjelaaGreat
set_option maxRecDepth 20000
open Go.RowKit
attribute [local irreducible] Calls
def coefs (n : Nat) (j : Nat) : List G := (List.range n).map fun i => gpow 2 (i * j)
theorem coefs_len (n j : Nat) : (coefs n j).length = n := by simp [coefs]
def matx (n : Nat) : List (List G) := (List.range 3).map (coefs n)
def rowP (n j i : Nat) : List G := (List.range n).map fun q => if q < i then gpow 2 (q * j) else 0
theorem rowP_len (n j i : Nat) : (rowP n j i).length = n := by simp [rowP]
theorem rowP_zero (n j : Nat) : List.replicate n (0 : G) = rowP n j 0 := by
  refine list_ext_nth (by simp [rowP]) fun k hk => ?_
  have hk' : k < n := by simpa using hk
  rw [rowP, nth_range _ hk', if_neg (by omega), nth_eq hk]
  simp
theorem rowP_set {n j i : Nat} (h : i < n) : (rowP n j i).set i (gpow 2 (i * j)) = rowP n j (i + 1) :=
  list_ext_nth (by rw [List.length_set, rowP_len, rowP_len]) fun q hq => by
    have hq3 : q < n := by rw [List.length_set, rowP_len] at hq; exact hq
    rw [nth_set_eq (by rw [rowP_len]; exact h), rowP, rowP, nth_range _ hq3, nth_range _ hq3]
    by_cases e : q = i
    · subst e; rw [if_pos rfl, if_pos (by omega)]
    · rw [if_neg e]
      by_cases e2 : q < i
      · rw [if_pos e2, if_pos (by omega)]
      · rw [if_neg e2, if_neg (by omega)]
theorem row_put {n j i q : Nat} {v : Value} (h : i < n) (hq : q = i) (hv : v = bv (gpow 2 (i * j))) : (bvs (rowP n j i)).set q v = bvs (rowP n j (i + 1)) := by rw [hq, hv, bvs_set, rowP_set h]
theorem rowP_all (n j : Nat) : rowP n j n = coefs n j := List.map_congr_left fun q hq => if_pos (by simpa using hq)
set_option maxHeartbeats 1000000 in
theorem matrix_n (n : Nat) (w : World) (h1 : 1 ≤ n) (h2 : n ≤ 13) : Calls Tryz.prog 135 #[iv n] w fun e w' => ∃ v' M, e = .returned v' ∧ H w M w' ∧
    ∃ A c rs, v' = .tuple #[.slice A 3 c, iv 0] ∧ M = matL A c rs ∧ els rs = matx n ∧ rs.length = 3 := by
  refine calls_wc (args := [iv n]) [2, 3] [] Tryz.func135 rfl Tryz.ntmps135 rfl rfl rfl rfl (H.refl w) ?_
  refine WC.seq fun K hK => ?_
  refine WC.region rfl ?_
  refine wAS rfl rfl rfl rfl rfl ?_
  refine wAI rfl rfl rfl rfl rfl ?_
  refine WL.nil (hK _ _ ?_); clear hK
  refine WC.seq fun K hK => ?_
  refine WC.seq fun K hK => ?_
  refine WC.region rfl ?_
  refine wMI rfl rfl rfl rfl rfl ?_
  refine wG rfl rfl (g_lt rfl (.mk rfl rfl) (.mk rfl rfl) (decide_eq_false (by omega))) ?_
  refine wMB rfl rfl rfl rfl rfl ?_
  refine WL.wantG rfl rfl rfl rfl (WL1.give rfl (g_move rfl (.mk (v := .int _ _) rfl rfl)) ?_)
  refine WL.wantG rfl rfl rfl rfl (WL1.give rfl (g_gt rfl (.mk rfl rfl) (.mk rfl rfl) (decide_eq_false (by omega))) ?_)
  refine wG rfl rfl (g_pickF rfl (.mk rfl rfl) (.mk (v := .bool _) rfl rfl)) ?_
  refine WL.nil (hK _ _ ?_); clear hK
  refine WC.cond_false (.mk rfl rfl) ?_
  refine WC.skip ?_
  (refine hK _ _ ?_; clear hK)
  refine WC.seq fun K hK => ?_
  refine WC.region rfl ?_
  refine wAS rfl rfl rfl rfl rfl ?_
  refine WL.nil (hK _ _ ?_); clear hK
  refine WC.seq fun K hK => ?_
  refine WC.seq fun K hK => ?_
  refine WC.region rfl ?_
  refine wMI rfl rfl rfl rfl rfl ?_
  refine WL.nil (hK _ _ ?_); clear hK
  refine WC.block ?_
  refine WC.nilvec 99 1 ?_
  refine WC.loop4 (137438937328) (fun (j : Nat) (B : Option Addr) (cB : Nat) (rs : List Row) => [(4, .slice B j cB), (14, iv j)]) (fun j B cB rs => vec B j cB 99 1 (rs.map Row.v) :: rs.reverse.map Row.own) (fun j _ _ rs => j ≤ 3 ∧ els rs = (List.range j).map (coefs n)) (fun j _ _ _ => 3 - j) 0 none 0 [] ⟨rfl, rfl, trivial⟩ (.refl _) ⟨by omega, rfl⟩ ?_
  rintro j B cB rs U ⟨hj, hrs⟩
  have hrl : rs.length = j := by have := congrArg List.length hrs; simpa [els] using this
  by_cases hlt : j < 3
  · refine WC.seq fun K hK => ?_
    refine WC.region rfl ?_
    refine wG rfl rfl (g_lt rfl (.mk rfl rfl) (.mk rfl rfl) (decide_eq_true (by omega))) ?_
    refine WL.nil (hK _ _ ?_); clear hK
    refine WC.seq fun K hK => ?_
    refine WC.cond_true (.mk rfl rfl) ?_
    refine WC.skip ?_
    (refine hK _ _ ?_; clear hK)
    refine WC.seq fun K hK => ?_
    refine WC.block ?_
    refine WC.seq fun K hK => ?_
    refine WC.region rfl ?_
    refine wMI rfl rfl rfl rfl rfl ?_
    refine wAI rfl rfl rfl rfl rfl ?_
    refine WL.nil (hK _ _ ?_); clear hK
    refine WC.seq fun K hK => ?_
    refine WC.region rfl ?_
    refine wMI rfl rfl rfl rfl rfl ?_
    refine WL.want rfl (WL1.make elB rfl rfl (.mk rfl rfl) (.mk rfl rfl) rfl rfl (by omega) (by unfold maxLen; omega) (fun b18 => ?_))
    refine wAS rfl rfl rfl rfl rfl ?_
    refine WL.nil (hK _ _ ?_); clear hK
    refine WC.seq fun K hK => ?_
    refine WC.seq fun K hK => ?_
    refine WC.region rfl ?_
    refine wMS rfl rfl rfl rfl rfl ?_
    refine wG rfl rfl (g_len rfl (.mk rfl rfl) rfl) ?_
    refine wMI rfl rfl rfl rfl rfl ?_
    refine WL.nil (hK _ _ ?_); clear hK
    refine WC.block ?_
    refine WC.loop (4292870272) (fun i : Nat => [(21, iv i)]) (fun i => vec (some ⟨b18, 0, none⟩) n n 5 1 (bvs (rowP n j i)) :: vec B j cB 99 1 (rs.map Row.v) :: rs.reverse.map Row.own) (fun i => i ≤ n) (fun i => n - i) 0 ⟨rfl, trivial⟩ (by rw [← rowP_zero, ← madeU]; exact .refl _) (by omega) ?_
    intro i V hi
    have hrp := rowP_len n j i
    by_cases hlt2 : i < n
    · have hji : i * j ≤ 39 := Nat.le_trans (Nat.mul_le_mul (by omega : i ≤ 13) (by omega : j ≤ 3)) (by omega)
      have hmul : IntKind.i64.wrap ((i : Int) * (j : Int)) = ((i * j : Nat) : Int) := by rw [← Int.natCast_mul]; exact IntWalk.i64_in _ (by omega)
      have hbl : (bvs (rowP n j i)).length = n := by unfold bvs; rw [List.length_map, hrp]
      refine WC.seq fun K hK => ?_
      refine WC.region rfl ?_
      refine wG rfl rfl (g_lt rfl (.mk rfl rfl) (.mk rfl rfl) (decide_eq_true (by omega))) ?_
      refine WL.nil (hK _ _ ?_); clear hK
      refine WC.seq fun K hK => ?_
      refine WC.cond_true (.mk rfl rfl) ?_
      refine WC.skip ?_
      (refine hK _ _ ?_; clear hK)
      refine WC.seq fun K hK => ?_
      refine WC.block ?_
      refine WC.seq fun K hK => ?_
      refine WC.region rfl ?_
      refine wMI rfl rfl rfl rfl rfl ?_
      refine wAI rfl rfl rfl rfl rfl ?_
      refine WL.nil (hK _ _ ?_); clear hK
      refine WC.region rfl ?_
      refine wMS rfl rfl rfl rfl rfl ?_
      refine wMI rfl rfl rfl rfl rfl ?_
      refine wMI rfl rfl rfl rfl rfl ?_
      refine wMI rfl rfl rfl rfl rfl ?_
      refine wG rfl rfl (g_mul rfl (.mk rfl rfl) (.mk rfl rfl) hmul) ?_
      refine WL.want rfl (WL1.callP rfl rfl rfl (.cons (.mk (v := .int _ _) rfl rfl) .nil) (fun w hw => Calls.belowS (exp_j (i * j) (by omega) w)) ?_)
      refine wG rfl rfl (g_indexAddr (sz := 1) rfl (.mk rfl rfl) (.mk rfl rfl) rfl rfl rfl (by omega) (fun _ _ => rfl)) ?_
      refine WL.want rfl (WL1.storeV1 rfl rfl (.mk rfl rfl) (.mk rfl rfl) rfl rfl (by first | omega | (simp; done) | (simp; omega)) (.head) ?_)
      refine WL.nil (hK _ _ ?_); clear hK
      refine WC.region rfl ?_
      refine wG rfl rfl (g_add rfl (.mk rfl rfl) (.mk rfl rfl) (IntWalk.i64_in _ (by omega))) ?_
      refine wMI rfl rfl rfl rfl rfl ?_
      refine WL.nil ?_
      exact ⟨i + 1, (by repeat (first | with_reducible exact Out.refl _ _ | refine Out.set rfl ?_ | refine Out.put rfl ?_ | refine Out.sets rfl ?_ | refine Out.hav rfl ?_ | exact Out.refl _ _)), ⟨rfl, trivial⟩, subV (row_put hlt2 (by omega) rfl) (.refl _), by omega, by omega⟩
    · obtain rfl : i = n := by omega
      rw [rowP_all]
      refine WC.seq fun K hK => ?_
      refine WC.region rfl ?_
      refine wG rfl rfl (g_lt rfl (.mk rfl rfl) (.mk rfl rfl) (decide_eq_false (by omega))) ?_
      refine WL.nil (hK _ _ ?_); clear hK
      refine WC.seq fun K hK => ?_
      refine WC.cond_false (.mk rfl rfl) ?_
      refine WC.exit ?_
      (clear hK; refine hK _ _ ?_; clear hK)
      refine WC.region rfl ?_
      refine wMS rfl rfl rfl rfl rfl ?_
      refine wMS rfl rfl rfl rfl rfl ?_
      refine WL.want rfl (WL1.lit (cs := [_]) elR rfl rfl rfl (.cons (.mk (v := .slice _ _ _) rfl rfl) .nil) rfl (by simp [Value.cells]) rfl rfl (fun b34 => ?_))
      refine WL.want rfl (WL1.append elR rfl rfl (.mk rfl rfl) (.mk rfl rfl) (.tail (.tail (.head))) (fun w hw => Sl.of_vec hw (.head _)) (by first | (intro u hu; simp only [List.mem_cons, List.not_mem_nil, or_false] at hu; subst hu; rfl) | (intro u hu; simp only [List.mem_map] at hu; obtain ⟨x, _, rfl⟩ := hu; rfl) | (intro u hu; simp only [List.mem_flatMap] at hu; obtain ⟨x, _, hu⟩ := hu; simp at hu; rcases hu with rfl | rfl | rfl | rfl | rfl | rfl | rfl | rfl <;> rfl)) (by unfold maxLen; omega) (by omega) (fun A35 c35 => ?_))
      refine wAS rfl rfl rfl rfl rfl ?_
      refine WL.nil (hK _ _ ?_); clear hK
      refine WC.region rfl ?_
      refine wG rfl rfl (g_add rfl (.mk rfl rfl) (.mk rfl rfl) (IntWalk.i64_in _ (by omega))) ?_
      refine wMI rfl rfl rfl rfl rfl ?_
      refine WL.nil ?_
      obtain ⟨r, hr⟩ : ∃ r : Row, r = ⟨some ⟨b18, 0, none⟩, i, coefs i j⟩ := ⟨_, rfl⟩
      have hv : r.v = .slice (some ⟨b18, 0, none⟩) i i := by rw [hr, Row.v, coefs_len]
      have ho : r.own = vec (some ⟨b18, 0, none⟩) i i 5 1 (bvs (coefs i j)) := by rw [hr, Row.own, coefs_len]
      refine ⟨j + 1, A35, c35, rs ++ [r], (by repeat (first | with_reducible exact Out.refl _ _ | refine Out.set rfl ?_ | refine Out.put rfl ?_ | refine Out.sets rfl ?_ | refine Out.hav rfl ?_ | exact Out.refl _ _)), ⟨rfl, rfl, trivial⟩, ?_, ⟨by omega, by unfold els at *; rw [List.map_append, hrs, List.range_succ, List.map_append, hr]; rfl⟩, by omega⟩
      rw [List.map_append, List.reverse_append, List.map_append]
      show List.Sublist (vec A35 (j + 1) c35 99 1 (rs.map Row.v ++ [r.v]) :: r.own :: rs.reverse.map Row.own) _
      rw [hv, ho]
      exact .cons_cons _ (.cons _ (.refl _))
  · obtain rfl : j = 3 := by omega
    refine WC.seq fun K hK => ?_
    refine WC.region rfl ?_
    refine wG rfl rfl (g_lt rfl (.mk rfl rfl) (.mk rfl rfl) (decide_eq_false (by omega))) ?_
    refine WL.nil (hK _ _ ?_); clear hK
    refine WC.seq fun K hK => ?_
    refine WC.cond_false (.mk rfl rfl) ?_
    refine WC.exit ?_
    (clear hK; refine hK _ _ ?_; clear hK)
    refine WC.seq fun K hK => ?_
    refine WC.region rfl ?_
    refine wMS rfl rfl rfl rfl rfl ?_
    refine wAS rfl rfl rfl rfl rfl ?_
    refine wAI rfl rfl rfl rfl rfl ?_
    refine WL.nil (hK _ _ ?_); clear hK
    refine WC.ret ?_
    exact fun w' hw' => ⟨_, _, rfl, hw'.perm (.cons _ ((List.reverse_perm rs).map _)), B, cB, rs, rfl, by unfold matL; rw [hrl], hrs, hrl⟩
end Go.Proofs.YtdcijljfgcjelaaGreat
namespace Go.Proofs.YtdcijljfgcjelaaGreat
set_option maxRecDepth 20000
open Go.RowKit
attribute [local irreducible] Calls
def upd (ps : List Blk) (i : Nat) (d : Blk) : List Blk := (List.range 3).map fun j => nth ps j + gpow 2 (i * j) * d
def updP (ps : List Blk) (i : Nat) (d : Blk) (m : Nat) : List Blk := (List.range 3).map fun j => if j < m then nth ps j + gpow 2 (i * j) * d else nth ps j
theorem updP_len (ps : List Blk) (i : Nat) (d : Blk) (m : Nat) : (updP ps i d m).length = 3 := by simp [updP]
theorem updP_nth (ps : List Blk) (i : Nat) (d : Blk) (m : Nat) {j : Nat} (h : j < 3) : nth (updP ps i d m) j = if j < m then nth ps j + gpow 2 (i * j) * d else nth ps j := nth_range _ h
theorem updP_zero {ps : List Blk} (h : ps.length = 3) (i : Nat) (d : Blk) : updP ps i d 0 = ps := list_ext_nth (by rw [updP_len, h]) fun j hj => by
  rw [updP_nth _ _ _ _ (by rw [updP_len] at hj; exact hj), if_neg (by omega)]
theorem updP_all (ps : List Blk) (i : Nat) (d : Blk) : updP ps i d 3 = upd ps i d := List.map_congr_left fun q hq => if_pos (by simpa using hq)
theorem updP_set {ps : List Blk} {i m : Nat} {d : Blk} (h : m < 3) : (updP ps i d m).set m (nth ps m + gpow 2 (i * m) * d) = updP ps i d (m + 1) :=
  list_ext_nth (by rw [List.length_set, updP_len, updP_len]) fun q hq => by
    have hq3 : q < 3 := by rw [List.length_set, updP_len] at hq; exact hq
    rw [nth_set_eq (by rw [updP_len]; exact h), updP_nth _ _ _ _ hq3, updP_nth _ _ _ _ hq3]
    by_cases e : q = m
    · subst e; rw [if_pos rfl, if_pos (by omega)]
    · rw [if_neg e]
      by_cases e2 : q < m
      · rw [if_pos e2, if_pos (by omega)]
      · rw [if_neg e2, if_neg (by omega)]
theorem kvs_spl {l : List Blk} {k i : Nat} {b : Blk} {v : List Value} (hk : k < l.length) (hi : i = k * 8) (hv : v = b.cells) : spl (kvs l) i v = kvs (l.set k b) := by
  rw [hi, hv]; exact flat_set (enc := Blk.cells) blk8 (Blk.len _) hk
set_option maxHeartbeats 1000000 in
theorem update_n (v : Value) (ps : List Blk) (i : Nat) (a b : Blk) (w : World) (hv : Sl w 8 v ps.length (kvs ps)) (h1 : ps.length = 3) (h2 : i < 13) : Calls Tryz.prog 53 #[v, iv i, kv a, kv b] w fun e w' => ∃ v' M, e = .returned v' ∧ H w M w' ∧
    ∃ A c, v' = .tuple #[.slice A 3 c, iv 0] ∧ M = [vec A 3 c 41 8 (kvs (upd ps i (a + b)))] := by
  obtain ⟨A, c, rfl, hc, hm, hs⟩ := hv.open_
  have hf1 : ∀ w, Calls Tryz.prog 78 #[kv a, kv b, bv 1] w fun e w' => e = .returned (kv (a + b)) ∧ Below w.heap.size w w' := fun w => by have := fused_e a b 1 w; rwa [Blk.one_mul] at this
  refine calls_wc (args := [.slice A ps.length c, iv i, kv a, kv b]) [8, 9] [] Tryz.func53 rfl Tryz.ntmps53 rfl rfl rfl rfl (H.refl w) ?_
  refine WC.seq fun K hK => ?_
  refine WC.region rfl ?_
  refine WL.want rfl (WL1.box rfl rfl (.mk (v := .agg _) rfl rfl) rfl (fun b6 => ?_))
  refine WL.want rfl (WL1.box rfl rfl (.mk (v := .agg _) rfl rfl) rfl (fun b7 => ?_))
  refine wAS rfl rfl rfl rfl rfl ?_
  refine wAI rfl rfl rfl rfl rfl ?_
  refine WL.nil (hK _ _ ?_); clear hK
  refine WC.seq fun K hK => ?_
  refine WC.seq fun K hK => ?_
  refine WC.region rfl ?_
  refine wMS rfl rfl rfl rfl rfl ?_
  refine wG rfl rfl (g_len rfl (.mk rfl rfl) rfl) ?_
  refine wG rfl rfl (g_ne rfl (.mk rfl rfl) (.mk rfl rfl) (decide_eq_false (by omega))) ?_
  refine wMB rfl rfl rfl rfl rfl ?_
  refine WL.wantG rfl rfl rfl rfl (WL1.give rfl (g_move rfl (.mk (v := .int _ _) rfl rfl)) ?_)
  refine WL.wantG rfl rfl rfl rfl (WL1.give rfl (g_lt rfl (.mk rfl rfl) (.mk rfl rfl) (decide_eq_false (by omega))) ?_)
  refine wG rfl rfl (g_pickF rfl (.mk rfl rfl) (.mk (v := .bool _) rfl rfl)) ?_
  refine wMB rfl rfl rfl rfl rfl ?_
  refine WL.wantG rfl rfl rfl rfl (WL1.give rfl (g_move rfl (.mk (v := .int _ _) rfl rfl)) ?_)
  refine WL.wantG rfl rfl rfl rfl (WL1.give rfl (g_ge rfl (.mk rfl rfl) (.mk rfl rfl) (decide_eq_false (by omega))) ?_)
  refine wG rfl rfl (g_pickF rfl (.mk rfl rfl) (.mk (v := .bool _) rfl rfl)) ?_
  refine WL.nil (hK _ _ ?_); clear hK
  refine WC.cond_false (.mk rfl rfl) ?_
  refine WC.skip ?_
  (refine hK _ _ ?_; clear hK)
  refine WC.seq fun K hK => ?_
  refine WC.region rfl ?_
  refine wG rfl rfl (g_loadA rfl (.mk rfl rfl) rfl (sz8 _) (rdr_pt (.tail _ (.head _)) (fun j u h => by simpa using h))) ?_
  refine wG rfl rfl (g_loadA rfl (.mk rfl rfl) rfl (sz8 _) (rdr_pt (.head _) (fun j u h => by simpa using h))) ?_
  refine WL.want rfl (WL1.callP rfl rfl rfl (.cons (.mk (v := .agg _) rfl rfl) (.cons (.mk (v := .agg _) rfl rfl) (.cons (.mk (v := .int _ _) rfl rfl) .nil))) (fun w hw => hf1 w) ?_)
  refine WL.want rfl (WL1.alloc rfl rfl rfl rfl (fun b10 => ?_))
  refine WL.want rfl (WL1.storeAll rfl rfl (.mk rfl rfl) (.mk rfl rfl) rfl (all1 rfl) (by first | rfl | (simp [Blk.len]; done)) (.head) ?_)
  refine WL.nil (hK _ _ ?_); clear hK
  refine WC.seq fun K hK => ?_
  refine WC.region rfl ?_
  refine wMS rfl rfl rfl rfl rfl ?_
  (refine WL.want rfl (WL1.callN rfl rfl rfl (.cons (.mk (v := .slice _ _ _) rfl rfl) .nil) (fun w hw => clone_n _ ps w (hv.below hw.1) (by omega) (by omega)) ?_); rintro _ _ ⟨Ac, cc, rfl, rfl⟩)
  refine wAS rfl rfl rfl rfl rfl ?_
  refine WL.nil (hK _ _ ?_); clear hK
  refine WC.seq fun K hK => ?_
  refine WC.seq fun K hK => ?_
  refine WC.region rfl ?_
  refine wMS rfl rfl rfl rfl rfl ?_
  refine wG rfl rfl (g_len rfl (.mk rfl rfl) rfl) ?_
  refine wMI rfl rfl rfl rfl rfl ?_
  refine WL.nil (hK _ _ ?_); clear hK
  refine WC.block ?_
  refine WC.loop (281472829231104) (fun m : Nat => [(31, iv m)]) (fun m => [vec Ac ps.length cc 41 8 (kvs (updP ps i (a + b) m)), pt b10 41 (a + b).cells]) (fun m => m ≤ 3) (fun m => 3 - m) 0 ⟨rfl, trivial⟩ (by rw [updP_zero h1]; exact subK (subK (List.nil_sublist _))) (by omega) ?_
  intro m U hm3
  have hul := updP_len ps i (a + b) m
  by_cases hlt : m < 3
  · have hji : i * m ≤ 39 := Nat.le_trans (Nat.mul_le_mul (by omega : i ≤ 13) (by omega : m ≤ 3)) (by omega)
    have hmul : IntKind.i64.wrap ((i : Int) * (m : Int)) = ((i * m : Nat) : Int) := by rw [← Int.natCast_mul]; exact IntWalk.i64_in _ (by omega)
    have hun := updP_nth ps i (a + b) m hlt
    rw [if_neg (by omega)] at hun
    have hlx : (kvs (updP ps i (a + b) m)).length = 3 * 8 := by rw [kvs_len, hul]
    refine WC.seq fun K hK => ?_
    refine WC.region rfl ?_
    refine wG rfl rfl (g_lt rfl (.mk rfl rfl) (.mk rfl rfl) (decide_eq_true (by omega))) ?_
    refine WL.nil (hK _ _ ?_); clear hK
    refine WC.seq fun K hK => ?_
    refine WC.cond_true (.mk rfl rfl) ?_
    refine WC.skip ?_
    (refine hK _ _ ?_; clear hK)
    refine WC.seq fun K hK => ?_
    refine WC.block ?_
    refine WC.seq fun K hK => ?_
    refine WC.region rfl ?_
    refine wMI rfl rfl rfl rfl rfl ?_
    refine wAI rfl rfl rfl rfl rfl ?_
    refine WL.nil (hK _ _ ?_); clear hK
    refine WC.split 13 rfl (by kernel_rfl) (by decide +kernel) ?_
    refine WQ.want rfl (WQ1.give rfl (g_move rfl (.mk (v := .slice _ _ _) rfl rfl)) ?_)
    refine WQ.want rfl (WQ1.give rfl (g_move rfl (.mk (v := .int _ _) rfl rfl)) ?_)
    refine WQ.want rfl (WQ1.give rfl (g_move rfl (.mk (v := .slice _ _ _) rfl rfl)) ?_)
    refine WQ.want rfl (WQ1.give rfl (g_move rfl (.mk (v := .int _ _) rfl rfl)) ?_)
    refine WQ.want rfl (WQ1.give rfl (g_indexAddr (sz := 8) rfl (.mk rfl rfl) (.mk rfl rfl) rfl rfl rfl (by omega) (fun w hw => vec_some hw (.head _) (by omega))) ?_)
    refine WQ.want rfl (WQ1.give rfl (g_loadA rfl (.mk rfl rfl) rfl (sz8 _) (rdr_vec (.head _) (by omega) (flat_row (by first | assumption | exact fun _ _ => rfl | exact blk8) (by omega)))) ?_)
    refine WQ.want rfl (WQ1.give rfl (g_loadA rfl (.mk rfl rfl) rfl rfl (rdr_pt (.tail _ (.head _)) (fun j u h => by simpa using h))) ?_)
    refine WQ.want rfl (WQ1.give rfl (g_move rfl (.mk (v := .int _ _) rfl rfl)) ?_)
    refine WQ.want rfl (WQ1.give rfl (g_move rfl (.mk (v := .int _ _) rfl rfl)) ?_)
    refine WQ.want rfl (WQ1.give rfl (g_mul rfl (.mk rfl rfl) (.mk rfl rfl) hmul) ?_)
    refine WQ.want rfl (WQ1.callP rfl rfl rfl (.cons (.mk (v := .int _ _) rfl rfl) .nil) (fun w hw => Calls.belowS (exp_j (i * m) (by omega) w)) ?_)
    refine WQ.want rfl (WQ1.callP rfl rfl rfl (.cons (.mk (v := .agg _) rfl rfl) (.cons (.mk (v := .agg _) rfl rfl) (.cons (.mk (v := .int _ _) rfl rfl) .nil))) (fun w hw => fused_e _ _ _ w) ?_)
    refine WQ.want rfl (WQ1.give rfl (g_indexAddr (sz := 8) rfl (.mk rfl rfl) (.mk rfl rfl) rfl rfl rfl (by omega) (fun w hw => vec_some hw (.head _) (by omega))) ?_)
    refine WQ.nil ?_
    refine WY.one 13 (by decide +kernel) rfl rfl ?_
    refine WL1.storeVA rfl rfl (.mk rfl rfl) (.mk rfl rfl) rfl (all1 rfl) (by first | decide | omega | exact Nat.le_of_ble_eq_true rfl | (simp; done) | (simp; omega) | (rw [Blk.len]; omega)) (by first | omega | (rw [Blk.len]; omega) | (simp; done) | (simp; omega)) (.head) ?_
    refine WL.nil ?_
    refine WY.done (by decide +kernel) ?_
    (refine hK _ _ ?_; clear hK)
    refine WC.region rfl ?_
    refine wG rfl rfl (g_add rfl (.mk rfl rfl) (.mk rfl rfl) (IntWalk.i64_in _ (by omega))) ?_
    refine wMI rfl rfl rfl rfl rfl ?_
    refine WL.nil ?_
    exact ⟨m + 1, (by repeat (first | with_reducible exact Out.refl _ _ | refine Out.set rfl ?_ | refine Out.put rfl ?_ | refine Out.sets rfl ?_ | refine Out.hav rfl ?_ | exact Out.refl _ _)), ⟨rfl, trivial⟩, subV (by rw [hun]; exact (kvs_spl (by omega) (by omega) rfl).trans (congrArg kvs (updP_set hlt))) (.refl _), by omega, by omega⟩
  · obtain rfl : m = 3 := by omega
    refine WC.seq fun K hK => ?_
    refine WC.region rfl ?_
    refine wG rfl rfl (g_lt rfl (.mk rfl rfl) (.mk rfl rfl) (decide_eq_false (by omega))) ?_
    refine WL.nil (hK _ _ ?_); clear hK
    refine WC.seq fun K hK => ?_
    refine WC.cond_false (.mk rfl rfl) ?_
    refine WC.exit ?_
    (clear hK; refine hK _ _ ?_; clear hK)
    refine WC.seq fun K hK => ?_
    refine WC.region rfl ?_
    refine wMS rfl rfl rfl rfl rfl ?_
    refine wAS rfl rfl rfl rfl rfl ?_
    refine wAI rfl rfl rfl rfl rfl ?_
    refine WL.nil (hK _ _ ?_); clear hK
    refine WC.ret ?_
    exact fun w' hw' => ⟨_, _, rfl, hw'.sub (.cons_cons _ (List.nil_sublist _)), Ac, cc, by show Value.tuple #[.slice Ac ps.length cc, iv 0] = _; rw [h1], by rw [h1, updP_all]⟩
end Go.Proofs.YtdcijljfgcjelaaGreat
namespace Go.Proofs.YtdcijljfgcjelaaGreat
set_option maxRecDepth 20000
open Go.RowKit
/-! ### Sums -/
def bsum : Nat → (Nat → Blk) → Blk
  | 0, _ => 0
  | n + 1, f => bsum n f + f n
theorem bsum_congr {n : Nat} {f g : Nat → Blk} (h : ∀ k, k < n → f k = g k) : bsum n f = bsum n g := by
  induction n with
  | zero => rfl
  | succ n ih => rw [bsum, bsum, ih fun k hk => h k (by omega), h n (by omega)]
theorem bsum_add (n : Nat) (f g : Nat → Blk) : bsum n (fun k => f k + g k) = bsum n f + bsum n g := by
  induction n with
  | zero => exact (Blk.add_zero 0).symm
  | succ n ih => rw [bsum, bsum, bsum, ih]; ac_rfl
theorem bsum_zero {n : Nat} {f : Nat → Blk} (h : ∀ k, k < n → f k = 0) : bsum n f = 0 := by
  induction n with
  | zero => rfl
  | succ n ih => rw [bsum, ih fun k hk => h k (by omega), h n (by omega), Blk.add_zero]
theorem bsum_take {n a : Nat} (ha : a < n) (f : Nat → Blk) : bsum n f = f a + bsum n (fun k => if k = a then 0 else f k) := by
  induction n with
  | zero => omega
  | succ n ih =>
    rw [bsum, bsum]
    by_cases h : a = n
    · subst h
      rw [if_pos rfl, Blk.add_zero, Blk.add_comm]
      congr 1
      exact bsum_congr fun k hk => by rw [if_neg (by omega)]
    · rw [ih (by omega), if_neg (by omega), Blk.add_assoc]
/-! ### Linearity -/
def addL (a b : List Blk) : List Blk := (List.range a.length).map fun i => nth a i + nth b i
def mulL (c : G) (a : List Blk) : List Blk := a.map fun x => c * x
theorem rs_bsum (c : G) (ds : List Blk) (n : Nat) : rs c ds n = bsum n (fun i => gpow c i * nth ds i) := by
  induction n with
  | zero => rfl
  | succ n ih => rw [rs, bsum, ih]
theorem hor_bsum (c : G) (ds : List Blk) : hor c ds = bsum ds.length (fun i => gpow c i * nth ds i) := by rw [← rs_hor, rs_bsum]
theorem hor_set (c : G) : ∀ (ds : List Blk) (i : Nat) (b : Blk), i < ds.length → hor c (ds.set i b) = hor c ds + gpow c i * (nth ds i + b)
  | [], i, b, h => absurd h (by simp)
  | d :: ds, 0, b, _ => by
    rw [List.set_cons_zero, hor, hor, nth_zero, gpow_zero, Blk.one_mul, ← Blk.add_assoc, Blk.add_comm _ d, ← Blk.add_assoc, Blk.add_self, Blk.zero_add, Blk.add_comm]
  | d :: ds, i + 1, b, h => by
    rw [List.set_cons_succ, hor, hor_set c ds i b (by simpa using h), hor, nth_succ, Blk.mul_add, ← Blk.mul_mul, gpow_succ, G.mul_comm c, Blk.add_assoc]
theorem enc_len (ds : List Blk) : (enc ds).length = 3 := rfl
theorem enc_nth (ds : List Blk) {q : Nat} (h : q < 3) : nth (enc ds) q = hor (gpow 2 q) ds := nth_range _ h
theorem upd_enc (ds : List Blk) {i : Nat} (b : Blk) (h : i < ds.length) : upd (enc ds) i (nth ds i + b) = enc (ds.set i b) :=
  List.map_congr_left fun j hj => by
    have hj3 : j < 3 := by simpa using hj
    rw [hor_set _ _ _ _ h, enc_nth _ hj3, gpow_gpow, Nat.mul_comm]
/-! ### Syndromes -/
def col (n q k : Nat) : G := if k < n then gpow 2 (q * k) else if k = n + q then 1 else 0
def syn (n : Nat) (f : Nat → Blk) (q : Nat) : Blk := bsum (n + 3) fun k => col n q k * f k
theorem syn_add (n : Nat) (f g : Nat → Blk) (q : Nat) : syn n (fun k => f k + g k) q = syn n f q + syn n g q := by
  unfold syn; rw [← bsum_add]; exact bsum_congr fun k _ => Blk.mul_add _ _ _
theorem syn_list {ps : List Blk} {n q : Nat} (h : ps.length = n + 3) (hq : q < 3) : syn n (nth ps) q = hor (gpow 2 q) (ps.take n) + nth ps (n + q) := by
  have hl : (ps.take n).length = n := by rw [List.length_take]; omega
  have h1 : bsum n (fun k => col n q k * nth ps k) = hor (gpow 2 q) (ps.take n) := by
    rw [hor_bsum, hl]
    refine bsum_congr fun k hk => ?_
    rw [col, if_pos hk, gpow_gpow]
    congr 1
    unfold nth
    simp [List.getD_eq_getElem?_getD, List.getElem?_take, hk]
  have hc : ∀ j, j < 3 → col n q (n + j) = if j = q then 1 else 0 := fun j _ => by
    rw [col, if_neg (by omega)]
    by_cases e : j = q
    · rw [if_pos e, if_pos (by omega)]
    · rw [if_neg e, if_neg (by omega)]
  have hb : bsum (n + 3) (fun k => col n q k * nth ps k) = bsum n (fun k => col n q k * nth ps k) + col n q n * nth ps n + col n q (n + 1) * nth ps (n + 1) + col n q (n + 2) * nth ps (n + 2) := rfl
  rw [syn, hb, h1, show col n q n = if (0 : Nat) = q then 1 else 0 from hc 0 (by omega), hc 1 (by omega), hc 2 (by omega)]
  have h3 : q = 0 ∨ q = 1 ∨ q = 2 := by omega
  rcases h3 with rfl | rfl | rfl <;> simp [Blk.one_mul, Blk.zero_mul, Blk.add_zero]
theorem isGroup_syn {ps : List Blk} {n : Nat} (h : ps.length = n + 3) (h1 : 4 ≤ ps.length) (h2 : ps.length ≤ 16) : isGroup ps = true ↔ ∀ q, q < 3 → syn n (nth ps) q = 0 := by
  rw [isGroup_at h h1 h2, decide_eq_true_eq]
  have hd : ∀ q, nth (ps.drop n) q = nth ps (n + q) := fun q => by unfold nth; simp [List.getD_eq_getElem?_getD, List.getElem?_drop]
  constructor
  · intro e q hq
    rw [syn_list h hq, ← enc_nth _ hq, e, hd, Blk.add_self]
  · intro e
    refine list_ext_nth (by rw [enc_len, List.length_drop]; omega) fun q hq => ?_
    have hq3 : q < 3 := hq
    rw [enc_nth _ hq3, hd]
    have := e q hq3
    rw [syn_list h hq3] at this
    exact Blk.add_cancel this
/-! ### No three columns depend on each other -/
def colv (p q : Nat) : Nat := if p < 13 then pow2 (q * p) else if p = 13 + q then 1 else 0
def det3 (a b c : Nat) : Nat :=
  gmul (colv a 0) (gmul (colv b 1) (colv c 2) ^^^ gmul (colv b 2) (colv c 1)) ^^^ gmul (colv a 1) (gmul (colv b 0) (colv c 2) ^^^ gmul (colv b 2) (colv c 0)) ^^^ gmul (colv a 2) (gmul (colv b 0) (colv c 1) ^^^ gmul (colv b 1) (colv c 0))
theorem det_check : allB 16 (fun a => allB 16 fun b => Nat.beq a b || allB 16 fun c => Nat.beq a c || Nat.beq b c || Nat.blt 0 (det3 a b c)) = true := by decide +kernel
def code (n k : Nat) : Nat := if k < n then k else k - n + 13
theorem col_val {n k : Nat} (q : Nat) (hn : n ≤ 13) (hk : k < n + 3) : (col n q k).val = colv (code n k) q := by
  by_cases h : k < n
  · have h1 : code n k = k := if_pos h
    rw [h1, col, if_pos h, colv, if_pos (by omega), gpow_two_val]
  · have h1 : code n k = k - n + 13 := if_neg h
    rw [h1, col, if_neg h, colv, if_neg (show ¬ k - n + 13 < 13 by omega)]
    by_cases h2 : k = n + q
    · rw [if_pos h2, if_pos (by omega)]; rfl
    · rw [if_neg h2, if_neg (by omega)]; rfl
def det (n a b c : Nat) : G := col n 0 a * (col n 1 b * col n 2 c + col n 2 b * col n 1 c) + col n 1 a * (col n 0 b * col n 2 c + col n 2 b * col n 0 c) + col n 2 a * (col n 0 b * col n 1 c + col n 1 b * col n 0 c)
theorem det_ne {n a b c : Nat} (hn : n ≤ 13) (ha : a < n + 3) (hb : b < n + 3) (hc : c < n + 3) (hab : a ≠ b) (hac : a ≠ c) (hbc : b ≠ c) : det n a b c ≠ 0 := by
  intro h
  have hv : (det n a b c).val = det3 (code n a) (code n b) (code n c) := by
    simp only [det, det3, G.val_add, G.val_mul, col_val _ hn ha, col_val _ hn hb, col_val _ hn hc]
  rw [h] at hv
  have hlt : ∀ k, k < n + 3 → code n k < 16 := fun k hk => by unfold code; split <;> omega
  have hne : ∀ k j, k < n + 3 → j < n + 3 → k ≠ j → Nat.beq (code n k) (code n j) = false := fun k j hk hj hkj => by
    cases hbq : Nat.beq (code n k) (code n j) with
    | false => rfl
    | true => have := Nat.eq_of_beq_eq_true hbq; unfold code at this; split at this <;> split at this <;> omega
  have h1 := allB_spec det_check _ (hlt a ha)
  have h2 := allB_spec h1 _ (hlt b hb)
  rw [hne a b ha hb hab, Bool.false_or] at h2
  have h3 := allB_spec h2 _ (hlt c hc)
  rw [hne a c ha hc hac, hne b c hb hc hbc, ← hv] at h3
  cases h3
theorem cramer {p0 p1 p2 q0 q1 q2 r0 r1 r2 x y z : G} (h0 : p0 * x + q0 * y + r0 * z = 0) (h1 : p1 * x + q1 * y + r1 * z = 0) (h2 : p2 * x + q2 * y + r2 * z = 0) :
    (p0 * (q1 * r2 + q2 * r1) + p1 * (q0 * r2 + q2 * r0) + p2 * (q0 * r1 + q1 * r0)) * x = 0 := by
  have e : (q1 * r2 + q2 * r1) * (p0 * x + q0 * y + r0 * z) + (q0 * r2 + q2 * r0) * (p1 * x + q1 * y + r1 * z) + (q0 * r1 + q1 * r0) * (p2 * x + q2 * y + r2 * z) = 0 := by
    rw [h0, h1, h2, G.mul_zero, G.mul_zero, G.mul_zero]; rfl
  have e2 : (q1 * r2 + q2 * r1) * (p0 * x + q0 * y + r0 * z) + (q0 * r2 + q2 * r0) * (p1 * x + q1 * y + r1 * z) + (q0 * r1 + q1 * r0) * (p2 * x + q2 * y + r2 * z) =
      (p0 * (q1 * r2 + q2 * r1) + p1 * (q0 * r2 + q2 * r0) + p2 * (q0 * r1 + q1 * r0)) * x
      + ((q0 * q1 * r2 * y + q0 * q1 * r2 * y) + (q0 * q2 * r1 * y + q0 * q2 * r1 * y) + (q1 * q2 * r0 * y + q1 * q2 * r0 * y))
      + ((q1 * r0 * r2 * z + q1 * r0 * r2 * z) + (q2 * r0 * r1 * z + q2 * r0 * r1 * z) + (q0 * r1 * r2 * z + q0 * r1 * r2 * z)) := by
    simp only [G.mul_add, G.add_mul]
    ac_rfl
  rw [e2] at e
  simpa [G.add_self, G.add_zero] using e
theorem mds1 {n a b c : Nat} (hn : n ≤ 13) (ha : a < n + 3) (hb : b < n + 3) (hc : c < n + 3) (hab : a ≠ b) (hac : a ≠ c) (hbc : b ≠ c) {x y z : G} (h : ∀ q, q < 3 → col n q a * x + col n q b * y + col n q c * z = 0) : x = 0 := by
  have := cramer (h 0 (by omega)) (h 1 (by omega)) (h 2 (by omega))
  rcases mul_eq_zero_iff.1 this with h | h
  · exact absurd h (det_ne hn ha hb hc hab hac hbc)
  · exact h
theorem mdsB {n a b c : Nat} (hn : n ≤ 13) (ha : a < n + 3) (hb : b < n + 3) (hc : c < n + 3) (hab : a ≠ b) (hac : a ≠ c) (hbc : b ≠ c) {x y z : Blk} (h : ∀ q, q < 3 → col n q a * x + col n q b * y + col n q c * z = 0) : x = 0 :=
  Blk.ext_at fun k hk => by
    rw [Blk.zero_at hk]
    refine mds1 hn ha hb hc hab hac hbc (x := x.at k) (y := y.at k) (z := z.at k) fun q hq => ?_
    have := congrArg (fun b : Blk => b.at k) (h q hq)
    simpa [Blk.add_at _ _ hk, Blk.mul_at _ _ hk, Blk.zero_at hk] using this
theorem mds {n a b c : Nat} (hn : n ≤ 13) (ha : a < n + 3) (hb : b < n + 3) (hc : c < n + 3) (hab : a ≠ b) (hac : a ≠ c) (hbc : b ≠ c) {f : Nat → Blk} (h0 : ∀ k, k < n + 3 → k ≠ a → k ≠ b → k ≠ c → f k = 0) (h : ∀ q, q < 3 → syn n f q = 0) : ∀ k, k < n + 3 → f k = 0 := by
  have key : ∀ q, q < 3 → col n q a * f a + col n q b * f b + col n q c * f c = 0 := fun q hq => by
    have := h q hq
    rw [syn, bsum_take ha, bsum_take hb, bsum_take hc, bsum_zero] at this
    · rw [if_neg (fun h => hab h.symm), if_neg (fun h => hbc h.symm), if_neg (fun h => hac h.symm)] at this
      rw [Blk.add_zero, ← Blk.add_assoc] at this
      exact this
    · intro k hk
      by_cases h1 : k = c
      · rw [if_pos h1]
      · by_cases h2 : k = b
        · rw [if_neg h1, if_pos h2]
        · by_cases h3 : k = a
          · rw [if_neg h1, if_neg h2, if_pos h3]
          · rw [if_neg h1, if_neg h2, if_neg h3, h0 k hk h3 h2 h1, Blk.mul_zero]
  have hA := mdsB hn ha hb hc hab hac hbc key
  have hB := mdsB hn hb ha hc (fun h => hab h.symm) hbc hac (x := f b) (y := f a) (z := f c) fun q hq => by rw [Blk.add_comm (col n q b * f b)]; exact key q hq
  have hC := mdsB hn hc ha hb (fun h => hac h.symm) (fun h => hbc h.symm) hab (x := f c) (y := f a) (z := f b) fun q hq => by rw [Blk.add_assoc, Blk.add_comm]; exact key q hq
  intro k hk
  by_cases h1 : k = a
  · rw [h1]; exact hA
  by_cases h2 : k = b
  · rw [h2]; exact hB
  by_cases h3 : k = c
  · rw [h3]; exact hC
  exact h0 k hk h1 h2 h3
theorem three {m : Nat} (h : 3 ≤ m) {a b c : Nat} (ha : a < m) (hb : b < m) (hc : c < m) : ∃ x y z, x < m ∧ y < m ∧ z < m ∧ x ≠ y ∧ x ≠ z ∧ y ≠ z ∧ ∀ k, k ≠ x → k ≠ y → k ≠ z → k ≠ a ∧ k ≠ b ∧ k ≠ c := by
  have two : ∀ p q, p < m → q < m → p ≠ q → ∃ z, z < m ∧ p ≠ z ∧ q ≠ z := fun p q hp hq hpq => by
    by_cases h0 : p ≠ 0 ∧ q ≠ 0
    · exact ⟨0, by omega, h0.1, h0.2⟩
    by_cases h1 : p ≠ 1 ∧ q ≠ 1
    · exact ⟨1, by omega, h1.1, h1.2⟩
    · exact ⟨2, by omega, by omega, by omega⟩
  by_cases hab : a = b
  · by_cases hac : a = c
    · obtain ⟨y, hy, h1⟩ : ∃ y, y < m ∧ a ≠ y := by
        by_cases h0 : a = 0
        · exact ⟨1, by omega, by omega⟩
        · exact ⟨0, by omega, h0⟩
      obtain ⟨z, hz, h2, h3⟩ := two a y ha hy h1
      exact ⟨a, y, z, ha, hy, hz, h1, h2, h3, fun k h1 h2 h3 => ⟨h1, by omega, by omega⟩⟩
    · obtain ⟨z, hz, h2, h3⟩ := two a c ha hc hac
      exact ⟨a, c, z, ha, hc, hz, hac, h2, h3, fun k h1 h2 h3 => ⟨h1, by omega, h2⟩⟩
  · by_cases hc1 : c = a ∨ c = b
    · obtain ⟨z, hz, h2, h3⟩ := two a b ha hb hab
      exact ⟨a, b, z, ha, hb, hz, hab, h2, h3, fun k h1 h2 h3 => ⟨h1, h2, by omega⟩⟩
    · exact ⟨a, b, c, ha, hb, hc, hab, by omega, by omega, fun k h1 h2 h3 => ⟨h1, h2, h3⟩⟩
theorem near_groups {p q : List Blk} (h1 : 4 ≤ p.length) (h2 : p.length ≤ 16) (hl : q.length = p.length) (hp : isGroup p = true) (hq : isGroup q = true) {a b c : Nat} (ha : a < p.length) (hb : b < p.length) (hc : c < p.length) (h : ∀ k, k < p.length → k ≠ a → k ≠ b → k ≠ c → nth q k = nth p k) : q = p := by
  obtain ⟨n, hn⟩ : ∃ n, p.length = n + 3 := ⟨p.length - 3, by omega⟩
  obtain ⟨x, y, z, hx, hy, hz, hxy, hxz, hyz, hk⟩ := three (m := p.length) (by omega) ha hb hc
  rw [hn] at hx hy hz
  have hs := mds (n := n) (f := fun k => nth q k + nth p k) (by omega) hx hy hz hxy hxz hyz (fun k hkn h1 h2 h3 => by
    obtain ⟨e1, e2, e3⟩ := hk k h1 h2 h3
    show nth q k + nth p k = 0
    rw [h k (by omega) e1 e2 e3, Blk.add_self]) (fun j hj => by
      rw [syn_add, (isGroup_syn (by omega) (by omega) (by omega)).1 hq j hj, (isGroup_syn hn h1 h2).1 hp j hj, Blk.add_zero])
  exact list_ext_nth hl fun k hk => Blk.add_cancel (hs k (by omega))
theorem isGroup_enc {ds : List Blk} (h1 : 1 ≤ ds.length) (h2 : ds.length ≤ 13) : isGroup (ds ++ enc ds) = true := by
  have hl : (ds ++ enc ds).length = ds.length + 3 := by rw [List.length_append]; rfl
  rw [isGroup_at hl (by omega) (by omega), List.take_left, List.drop_left]
  exact decide_eq_true rfl
end Go.Proofs.YtdcijljfgcjelaaGreat
namespace Go.Proofs.YtdcijljfgcjelaaGreat
set_option maxRecDepth 20000
open Go.RowKit
attribute [local irreducible] Calls
def comb (ws : List G) (ds : List Blk) (n : Nat) : Blk := bsum n fun k => nth ws k * nth ds k
theorem comb_succ (ws : List G) (ds : List Blk) (n : Nat) : comb ws ds (n + 1) = comb ws ds n + nth ws n * nth ds n := rfl
theorem z8_zero : z8 = (0 : Blk).cells := rfl
set_option maxHeartbeats 2000000 in
theorem combine_e (vw vb : Value) (ws : List G) (ds : List Blk) (w : World) (h1 : Sl w 1 vw ws.length (bvs ws)) (h2 : Sl w 8 vb ds.length (kvs ds)) (hl : ws.length = ds.length) (hn : ws.length ≤ 1000) :
    Calls Tryz.prog 42 #[vw, vb] w fun e w' => e = .returned (.tuple #[kv (comb ws ds ws.length), iv 0]) ∧ Below w.heap.size w w' := by
  obtain ⟨A, c, rfl, hcc, hm, hs⟩ := h1.open_
  obtain ⟨B, d, rfl, hcd, hmd, hsb⟩ := h2.open_
  refine calls_wcG (args := [.slice A ws.length c, .slice B ds.length d]) [.cell 4 41, .tmp 5] [] Tryz.func42 rfl Tryz.ntmps42 rfl rfl (H.refl w) ?_
  refine WC.seq fun K hK => ?_
  refine WC.region rfl ?_
  refine WL.want rfl (WL1.alloc rfl rfl rfl rfl (fun b4 => ?_))
  refine wAI rfl rfl rfl rfl rfl ?_
  refine WL.nil (hK _ _ ?_); clear hK
  refine WC.seq fun K hK => ?_
  refine WC.region rfl ?_
  refine WL.want rfl (WL1.alloc rfl rfl rfl rfl (fun b6 => ?_))
  refine WL.nil (hK _ _ ?_); clear hK
  refine WC.seq fun K hK => ?_
  refine WC.seq fun K hK => ?_
  refine WC.region rfl ?_
  refine wMS rfl rfl rfl rfl rfl ?_
  refine wG rfl rfl (g_len rfl (.mk rfl rfl) rfl) ?_
  refine wMS rfl rfl rfl rfl rfl ?_
  refine wG rfl rfl (g_len rfl (.mk rfl rfl) rfl) ?_
  refine wG rfl rfl (g_ne rfl (.mk rfl rfl) (.mk rfl rfl) (decide_eq_false (by omega))) ?_
  refine WL.nil (hK _ _ ?_); clear hK
  refine WC.cond_false (.mk rfl rfl) ?_
  refine WC.skip ?_
  (refine hK _ _ ?_; clear hK)
  refine WC.seq fun K hK => ?_
  refine WC.seq fun K hK => ?_
  refine WC.region rfl ?_
  refine wMS rfl rfl rfl rfl rfl ?_
  refine wG rfl rfl (g_len rfl (.mk rfl rfl) rfl) ?_
  refine wMI rfl rfl rfl rfl rfl ?_
  refine WL.nil (hK _ _ ?_); clear hK
  refine WC.block ?_
  refine WC.loop (2199022994304) (fun i : Nat => [(18, iv i)]) (fun i => [pt b6 41 (comb ws ds i).cells, pt b4 41 z8]) (fun i => i ≤ ds.length) (fun i => ds.length - i) 0 ⟨rfl, trivial⟩ (.refl _) (by omega) ?_
  intro i U hi
  obtain ⟨a, ha⟩ : ∃ a, a = comb ws ds i := ⟨_, rfl⟩
  by_cases hlt : i < ds.length
  · have hgd : ∀ j u, (nth ds i).cells[j]? = some u → (kvs ds)[i * 8 + j]? = some u := fun j u h => flat_row blk8 (by omega) j u h
    obtain ⟨b, hb⟩ : ∃ b, b = nth ds i := ⟨_, rfl⟩
    have hst : comb ws ds (i + 1) = Blk.of fun j => a.at j + nth ws i * b.at j := by rw [comb_succ, ← ha, ← hb]; rfl
    rw [← hb] at hgd
    rw [← ha]
    refine WC.seq fun K hK => ?_
    refine WC.region rfl ?_
    refine wG rfl rfl (g_lt rfl (.mk rfl rfl) (.mk rfl rfl) (decide_eq_true (by omega))) ?_
    refine WL.nil (hK _ _ ?_); clear hK
    refine WC.seq fun K hK => ?_
    refine WC.cond_true (.mk rfl rfl) ?_
    refine WC.skip ?_
    (refine hK _ _ ?_; clear hK)
    refine WC.seq fun K hK => ?_
    refine WC.block ?_
    refine WC.seq fun K hK => ?_
    refine WC.region rfl ?_
    refine wMI rfl rfl rfl rfl rfl ?_
    refine wG rfl rfl (g_indexAddr (sz := 8) rfl (.mk rfl rfl) (.mk rfl rfl) rfl rfl rfl (by omega) (fun _ _ => sl_some hsb (by omega))) ?_
    refine wG rfl rfl (g_loadA rfl (.mk rfl rfl) rfl (sz8 _) (rdr_sl hsb (by omega) hgd)) ?_
    refine WL.want rfl (WL1.alloc rfl rfl rfl rfl (fun b8 => ?_))
    refine wAI rfl rfl rfl rfl rfl ?_
    refine WL.want rfl (WL1.storeAll rfl rfl (.mk rfl rfl) (.mk rfl rfl) (sz8 _) (Blk.one _) (by first | rfl | (simp [Blk.len]; done)) (.head) ?_)
    refine WL.nil (hK _ _ ?_); clear hK
    refine WC.seq fun K hK => ?_
    refine WC.region rfl ?_
    refine wMI rfl rfl rfl rfl rfl ?_
    refine WL.nil (hK _ _ ?_); clear hK
    refine WC.block ?_
    refine WC.loop (1099503239680) (fun k : Nat => [(23, iv k)]) (fun k => [pt b8 41 b.cells, pt b6 41 (mix k (fun j => a.at j + nth ws i * b.at j) (fun j => a.at j)).cells, pt b4 41 z8]) (fun k => k ≤ 8) (fun k => 8 - k) 0 ⟨rfl, trivial⟩ (by rw [← mix_start]; exact .refl _) (by omega) ?_
    intro k V hk
    by_cases hlt2 : k < 8
    · have hml := (mix k (fun j => a.at j + nth ws i * b.at j) (fun j => a.at j)).len
      refine WC.seq fun K hK => ?_
      refine WC.region rfl ?_
      refine wG rfl rfl (g_lt rfl (.mk rfl rfl) (.mk rfl rfl) (decide_eq_true (by omega))) ?_
      refine WL.nil (hK _ _ ?_); clear hK
      refine WC.seq fun K hK => ?_
      refine WC.cond_true (.mk rfl rfl) ?_
      refine WC.skip ?_
      (refine hK _ _ ?_; clear hK)
      refine WC.seq fun K hK => ?_
      refine WC.block ?_
      refine WC.seq fun K hK => ?_
      refine WC.region rfl ?_
      refine wMI rfl rfl rfl rfl rfl ?_
      refine wAI rfl rfl rfl rfl rfl ?_
      refine WL.nil (hK _ _ ?_); clear hK
      refine WC.split 13 rfl (by kernel_rfl) (by decide +kernel) ?_
      refine WQ.want rfl (WQ1.give rfl (g_move rfl (.mk (v := .int _ _) rfl rfl)) ?_)
      refine WQ.want rfl (WQ1.give rfl (g_indexAddrA (sz := 1) rfl (.mk rfl rfl) (.mk rfl rfl) rfl rfl rfl (by omega) (fun _ _ => rfl)) ?_)
      refine WQ.want rfl (WQ1.give rfl (g_load rfl (.mk rfl rfl) rfl (rd_pt (.tail _ (.head _)) (ix (mix_get hlt2 (by omega)) (by omega)))) ?_)
      refine WQ.want rfl (WQ1.give rfl (g_move rfl (.mk (v := .slice _ _ _) rfl rfl)) ?_)
      refine WQ.want rfl (WQ1.give rfl (g_move rfl (.mk (v := .int _ _) rfl rfl)) ?_)
      refine WQ.want rfl (WQ1.give rfl (g_indexAddr (sz := 1) rfl (.mk rfl rfl) (.mk rfl rfl) rfl rfl rfl (by omega) (fun _ _ => sl_some hs (by omega))) ?_)
      refine WQ.want rfl (WQ1.give rfl (g_load rfl (.mk rfl rfl) rfl (rd_sl hs (get1 (by omega)))) ?_)
      refine WQ.want rfl (WQ1.give rfl (g_move rfl (.mk (v := .int _ _) rfl rfl)) ?_)
      refine WQ.want rfl (WQ1.give rfl (g_indexAddrA (sz := 1) rfl (.mk rfl rfl) (.mk rfl rfl) rfl rfl rfl (by omega) (fun _ _ => rfl)) ?_)
      refine WQ.want rfl (WQ1.give rfl (g_load rfl (.mk rfl rfl) rfl (rd_pt (.head _) (ix (b.get hlt2) (by omega)))) ?_)
      refine WQ.want rfl (WQ1.callP rfl rfl rfl (.cons (.mk (v := .int _ _) rfl rfl) (.cons (.mk (v := .int _ _) rfl rfl) .nil)) (fun w hw => Calls.belowS (mul_c (nth ws i) (b.at k) w)) ?_)
      refine WQ.want rfl (WQ1.give rfl (g_xor (k := .u8) rfl (.mk rfl rfl) (.mk rfl rfl) (xor_u8 _ _)) ?_)
      refine WQ.want rfl (WQ1.give rfl (g_indexAddrA (sz := 1) rfl (.mk rfl rfl) (.mk rfl rfl) rfl rfl rfl (by omega) (fun _ _ => rfl)) ?_)
      refine WQ.nil ?_
      refine WY.one 13 (by decide +kernel) rfl rfl ?_
      refine WL1.store1 rfl rfl (.mk rfl rfl) (.mk (v := .int _ _) rfl rfl) rfl rfl (by first | omega | (simp; done) | (simp; omega)) (.tail (.head)) ?_
      refine WL.nil ?_
      refine WY.done (by decide +kernel) ?_
      (refine hK _ _ ?_; clear hK)
      refine WC.region rfl ?_
      refine wG rfl rfl (g_add rfl (.mk rfl rfl) (.mk rfl rfl) (IntWalk.i64_in _ (by omega))) ?_
      refine wMI rfl rfl rfl rfl rfl ?_
      refine WL.nil ?_
      exact ⟨k + 1, (by repeat (first | with_reducible exact Out.refl _ _ | refine Out.set rfl ?_ | refine Out.put rfl ?_ | refine Out.sets rfl ?_ | refine Out.hav rfl ?_ | exact Out.refl _ _)), ⟨rfl, trivial⟩, subK (sub1 (mix_put hlt2 (by omega) rfl) (.refl _)), by omega, by omega⟩
    · obtain rfl : k = 8 := by omega
      refine WC.seq fun K hK => ?_
      refine WC.region rfl ?_
      refine wG rfl rfl (g_lt rfl (.mk rfl rfl) (.mk rfl rfl) (decide_eq_false (by omega))) ?_
      refine WL.nil (hK _ _ ?_); clear hK
      refine WC.seq fun K hK => ?_
      refine WC.cond_false (.mk rfl rfl) ?_
      refine WC.exit ?_
      (clear hK; refine hK _ _ ?_; clear hK)
      refine WC.region rfl ?_
      refine wG rfl rfl (g_add rfl (.mk rfl rfl) (.mk rfl rfl) (IntWalk.i64_in _ (by omega))) ?_
      refine wMI rfl rfl rfl rfl rfl ?_
      refine WL.nil ?_
      exact ⟨i + 1, (by repeat (first | with_reducible exact Out.refl _ _ | refine Out.set rfl ?_ | refine Out.put rfl ?_ | refine Out.sets rfl ?_ | refine Out.hav rfl ?_ | exact Out.refl _ _)), ⟨rfl, trivial⟩, by rw [hst, mix_all]; exact .cons _ (.refl _), by omega, by omega⟩
  · obtain rfl : i = ds.length := by omega
    rw [← ha]
    have hae : a = comb ws ds ws.length := by rw [ha, hl]
    have hcl := a.len
    refine WC.seq fun K hK => ?_
    refine WC.region rfl ?_
    refine wG rfl rfl (g_lt rfl (.mk rfl rfl) (.mk rfl rfl) (decide_eq_false (by omega))) ?_
    refine WL.nil (hK _ _ ?_); clear hK
    refine WC.seq fun K hK => ?_
    refine WC.cond_false (.mk rfl rfl) ?_
    refine WC.exit ?_
    (clear hK; refine hK _ _ ?_; clear hK)
    refine WC.seq fun K hK => ?_
    refine WC.region rfl ?_
    refine wG rfl rfl (g_loadA rfl (.mk rfl rfl) rfl (sz8 _) (rdr_pt (.head _) (fun j u h => by simpa using h))) ?_
    refine WL.want rfl (WL1.storeAll rfl rfl (.mk rfl rfl) (.mk rfl rfl) (sz8 _) (Blk.one _) (by first | rfl | (simp [Blk.len]; done)) (.tail (.head)) ?_)
    refine wAI rfl rfl rfl rfl rfl ?_
    refine WL.nil (hK _ _ ?_); clear hK
    refine WC.ret ?_
    exact ⟨_, .cell rfl rfl rfl (sz8 _) (.tail _ (.head _)) (.tmp rfl rfl .nil), fun w' hw' => ⟨by rw [← hae]; rfl, hw'.1⟩⟩
end Go.Proofs.YtdcijljfgcjelaaGreat
namespace Go.Proofs.YtdcijljfgcjelaaGreat
set_option maxRecDepth 20000
open Go.RowKit
theorem bsum_at {t : Nat} (ht : t < 8) : ∀ (n : Nat) (f : Nat → Blk), (bsum n f).at t = gsum n fun k => (f k).at t
  | 0, _ => Blk.zero_at ht
  | n + 1, f => by
    show (bsum n f + f n).at t = gsum n _ + _
    rw [Blk.add_at _ _ ht, bsum_at ht n f]
theorem mulsum_at {t : Nat} (ht : t < 8) (n : Nat) (c : Nat → G) (f : Nat → Blk) : (bsum n fun k => c k * f k).at t = gsum n fun k => c k * (f k).at t := by
  rw [bsum_at ht]
  exact gsum_congr fun k _ => Blk.mul_at _ _ ht
theorem bsum_assoc (p q : Nat) (a : Nat → G) (b : Nat → Nat → G) (f : Nat → Blk) : (bsum p fun j => a j * bsum q fun k => b j k * f k) = bsum q fun k => (gsum p fun j => a j * b j k) * f k :=
  Blk.ext_at fun t ht => by
    rw [mulsum_at ht, mulsum_at ht]
    rw [gsum_congr (g := fun k => a k * gsum q fun j => b k j * (f j).at t) fun k _ => by rw [mulsum_at ht]]
    rw [← gsum_assoc]
def genM (n : Nat) : List (List G) := idM n ++ matx n
theorem genM_row {n i : Nat} (hi : i < n + 3) : nth (genM n) i = if i < n then (List.range n).map fun k => dlt i k else coefs n (i - n) := by
  have hl : (idM n).length = n := by simp [idM]
  unfold genM
  rw [nth_app, hl]
  by_cases h : i < n
  · rw [if_pos h, if_pos h]; exact nth_range _ h
  · rw [if_neg h, if_neg h]; exact nth_range _ (by omega)
theorem genM_rowlen {n i : Nat} (hi : i < n + 3) : (nth (genM n) i).length = n := by
  rw [genM_row hi]
  by_cases h : i < n
  · rw [if_pos h]; simp
  · rw [if_neg h]; exact coefs_len n _
def gen (n i j : Nat) : G := if i < n then dlt i j else gpow 2 (j * (i - n))
theorem genM_el {n i j : Nat} (hi : i < n + 3) (hj : j < n) : el (genM n) i j = gen n i j := by
  unfold el gen
  rw [genM_row hi]
  by_cases h : i < n
  · rw [if_pos h, if_pos h]; exact nth_range _ hj
  · rw [if_neg h, if_neg h]; exact nth_range _ hj
theorem grp_gen (ds : List Blk) {i : Nat} (hi : i < ds.length + 3) : nth (ds ++ enc ds) i = bsum ds.length fun j => gen ds.length i j * nth ds j := by
  rw [nth_app]
  by_cases h : i < ds.length
  · rw [if_pos h]
    refine Blk.ext_at fun t ht => ?_
    rw [mulsum_at ht, gsum_congr (g := fun j => dlt i j * (nth ds j).at t) fun j _ => by unfold gen; rw [if_pos h]]
    exact (gsum_dlt h fun j => (nth ds j).at t).symm
  · rw [if_neg h, enc_nth _ (by omega), hor_bsum]
    refine bsum_congr fun j _ => ?_
    unfold gen
    rw [if_neg h, gpow_gpow, Nat.mul_comm]
theorem compl {m : Nat} : ∀ l : List Nat, l.Nodup → (∀ a ∈ l, a < m) → ∃ c : List Nat, c.length + l.length = m ∧ (∀ k, k < m → k ∈ l ∨ k ∈ c) ∧ ∀ k ∈ c, k < m
  | [], _, _ => ⟨List.range m, by simp, fun k hk => .inr (by simpa using hk), fun k hk => by simpa using hk⟩
  | a :: l, hn, hl => by
    obtain ⟨h1, h2⟩ := List.nodup_cons.1 hn
    obtain ⟨c, c1, c2, c3⟩ := compl l h2 fun b hb => hl b (by simp [hb])
    have hac : a ∈ c := (c2 a (hl a (by simp))).resolve_left h1
    refine ⟨c.erase a, ?_, fun k hk => ?_, fun k hk => c3 k (List.mem_of_mem_erase hk)⟩
    · have := List.length_erase_of_mem hac
      have h0 : 0 < c.length := List.length_pos_of_mem hac
      rw [List.length_cons]; omega
    · by_cases e : k = a
      · exact .inl (by simp [e])
      · rcases c2 k hk with h | h
        · exact .inl (by simp [h])
        · exact .inr ((List.mem_erase_of_ne e).2 h)
structure Helps (n : Nat) (from_ : List Nat) : Prop where
  len : from_.length = n
  lt : ∀ i, i < n → nth from_ i < n + 3
  nd : from_.Nodup
theorem Helps.three {n : Nat} {fr : List Nat} (h : Helps n fr) : ∃ a b c, a < n + 3 ∧ b < n + 3 ∧ c < n + 3 ∧ ∀ k, k < n + 3 → k ≠ a → k ≠ b → k ≠ c → ∃ i, i < n ∧ nth fr i = k := by
  obtain ⟨c, c1, c2, c3⟩ := compl (m := n + 3) fr h.nd fun a ha => by
    obtain ⟨i, hi, rfl⟩ := List.getElem_of_mem ha
    have := h.lt i (by rw [← h.len]; exact hi)
    rwa [nth_eq hi] at this
  have hl := h.len
  match c, (show c.length = 3 by omega) with
  | [x, y, z], _ =>
    refine ⟨x, y, z, c3 x (by simp), c3 y (by simp), c3 z (by simp), fun k hk k1 k2 k3 => ?_⟩
    rcases c2 k hk with h' | h'
    · obtain ⟨i, hi, e⟩ := List.getElem_of_mem h'
      exact ⟨i, by omega, by rw [nth_eq hi]; exact e⟩
    · simp at h'; rcases h' with rfl | rfl | rfl <;> contradiction
theorem zero_group {n : Nat} (h1 : 1 ≤ n) (h2 : n ≤ 13) : isGroup (List.replicate (n + 3) (0 : Blk)) = true := by
  have e : List.replicate (n + 3) (0 : Blk) = List.replicate n 0 ++ enc (List.replicate n 0) := list_ext_nth (by simp [enc_len]) fun k hk => by
    have hk' : k < n + 3 := by simpa using hk
    have hz : ∀ m j, nth (List.replicate m (0 : Blk)) j = 0 ∨ m ≤ j := fun m j => by
      by_cases hj : j < m
      · left; rw [nth_eq (by simpa using hj)]; simp
      · right; omega
    rw [grp_gen _ (by simpa using hk'), (hz (n + 3) k).resolve_right (by omega)]
    refine (bsum_zero fun j hj => ?_).symm
    rw [(hz n j).resolve_right (by simpa using Nat.not_le_of_lt hj), Blk.mul_zero]
  rw [e]
  exact isGroup_enc (by simpa using h1) (by simpa using h2)
theorem Helps.inj {n : Nat} {fr : List Nat} (h : Helps n fr) (h1 : 1 ≤ n) (h2 : n ≤ 13) {x : Nat → G} (hx : ∀ i, i < n → gsum n (fun j => gen n (nth fr i) j * x j) = 0) : ∀ j, j < n → x j = 0 := fun j hj => by
  obtain ⟨ds, hds⟩ : ∃ ds : List Blk, ds = (List.range n).map fun j => Blk.of fun _ => x j := ⟨_, rfl⟩
  have hl : ds.length = n := by rw [hds]; simp
  have hnd : ∀ j, j < n → nth ds j = Blk.of fun _ => x j := fun j hj => by rw [hds]; exact nth_range _ hj
  have hg : isGroup (ds ++ enc ds) = true := isGroup_enc (by omega) (by omega)
  obtain ⟨a, b, c, ha, hb, hc, habc⟩ := h.three
  have hrl : (List.replicate (n + 3) (0 : Blk)).length = n + 3 := by simp
  have hz : ∀ j, j < n + 3 → nth (List.replicate (n + 3) (0 : Blk)) j = 0 := fun j hj => by rw [nth_eq (by simpa using hj)]; simp
  have key := near_groups (p := List.replicate (n + 3) (0 : Blk)) (q := ds ++ enc ds) (by omega) (by omega) (by rw [hrl, List.length_append, enc_len, hl]) (zero_group h1 h2) hg (a := a) (b := b) (c := c) (by omega) (by omega) (by omega) fun k hk k1 k2 k3 => by
    rw [hrl] at hk
    obtain ⟨i, hi, rfl⟩ := habc k hk k1 k2 k3
    rw [hz _ hk, grp_gen _ (by omega), hl]
    refine Blk.ext_at fun t ht => ?_
    rw [mulsum_at ht, Blk.zero_at ht, ← hx i hi]
    exact gsum_congr fun j hj => by rw [hnd j hj, Blk.of_at _ ht]
  have e : nth (ds ++ enc ds) j = nth (List.replicate (n + 3) (0 : Blk)) j := by rw [key]
  rw [hz j (by omega), nth_app, if_pos (by omega), hnd j hj] at e
  have : (Blk.of fun _ => x j).at 0 = (0 : Blk).at 0 := by rw [e]
  rwa [Blk.of_at _ (by omega), Blk.zero_at (by omega)] at this
theorem rows_shp {n : Nat} {fr : List Nat} (h : Helps n fr) : Shp (rowsM (genM n) fr) n n :=
  ⟨by rw [rowsM_len, h.len], fun i hi => by rw [rowsM_at (by rw [h.len]; exact hi)]; exact genM_rowlen (h.lt i hi)⟩
theorem rows_el {n : Nat} {fr : List Nat} (h : Helps n fr) {i j : Nat} (hi : i < n) (hj : j < n) : el (rowsM (genM n) fr) i j = gen n (nth fr i) j := by
  rw [← genM_el (h.lt i hi) hj]
  unfold el
  rw [rowsM_at (by rw [h.len]; exact hi)]
theorem Helps.inv {n : Nat} {fr : List Nat} (h : Helps n fr) (h1 : 1 ≤ n) (h2 : n ≤ 13) : ∃ v, invM (rowsM (genM n) fr) = some v := by
  cases e : invM (rowsM (genM n) fr) with
  | some v => exact ⟨v, rfl⟩
  | none =>
    obtain ⟨x, ⟨k, hk, hx⟩, hs⟩ := invM_none (rows_shp h) e
    exact absurd (h.inj h1 h2 (x := x) (fun i hi => by rw [← hs i hi]; exact gsum_congr fun j hj => by rw [rows_el h hi hj]) k hk) hx
def invOf (n : Nat) (fr : List Nat) : List (List G) := (invM (rowsM (genM n) fr)).getD []
def wts (n : Nat) (fr : List Nat) (to : Nat) : List G := (List.range n).map fun k => gsum n fun j => gen n to j * el (invOf n fr) j k
theorem wts_len (n : Nat) (fr : List Nat) (to : Nat) : (wts n fr to).length = n := by simp [wts]
theorem Helps.inv_eq {n : Nat} {fr : List Nat} (h : Helps n fr) (h1 : 1 ≤ n) (h2 : n ≤ 13) : invM (rowsM (genM n) fr) = some (invOf n fr) := by
  obtain ⟨v, hv⟩ := h.inv h1 h2
  rw [invOf, hv]; rfl
theorem Helps.solves {n : Nat} {fr : List Nat} (h : Helps n fr) (h1 : 1 ≤ n) (h2 : n ≤ 13) {to : Nat} {j : Nat} (hj : j < n) : gsum n (fun k => nth (wts n fr to) k * gen n (nth fr k) j) = gen n to j := by
  obtain ⟨_, hl, _⟩ := invM_some (rows_shp h) (h.inv_eq h1 h2)
  rw [gsum_congr (g := fun k => (gsum n fun i => gen n to i * el (invOf n fr) i k) * el (rowsM (genM n) fr) k j) fun k hk => by
    rw [rows_el h hk hj]; congr 1; exact nth_range _ hk]
  rw [gsum_assoc, gsum_congr (g := fun i => gen n to i * dlt i j) fun i hi => by rw [hl i hi j hj]]
  exact gsum_dlt' hj _
theorem Helps.comb {n : Nat} {fr : List Nat} (h : Helps n fr) (h1 : 1 ≤ n) (h2 : n ≤ 13) {ds : List Blk} (hl : ds.length = n) {to : Nat} (hto : to < n + 3) {bs : List Blk} (hb : ∀ k, k < n → nth bs k = nth (ds ++ enc ds) (nth fr k)) : comb (wts n fr to) bs n = nth (ds ++ enc ds) to := by
  subst hl
  unfold Go.Proofs.YtdcijljfgcjelaaGreat.comb
  rw [bsum_congr (g := fun k => nth (wts ds.length fr to) k * bsum ds.length fun j => gen ds.length (nth fr k) j * nth ds j) fun k hk => by rw [hb k hk, grp_gen _ (h.lt k hk)]]
  rw [bsum_assoc, grp_gen _ hto]
  exact bsum_congr fun j hj => by rw [h.solves h1 h2 hj]
end Go.Proofs.YtdcijljfgcjelaaGreat
namespace Go.Proofs.YtdcijljfgcjelaaGreat
set_option maxRecDepth 20000
open Go.RowKit
def eqM (n : Nat) (fr : List Nat) (to : Nat) : List (List G) := (List.range n).map fun i => (List.range n).map (fun k => gen n (nth fr k) i) ++ [gen n to i]
structure RInv (W : Nat → G) (a : List (List G)) (n c : Nat) : Prop where
  shp : Shp a n (n + 1)
  sol : ∀ i, i < n → gsum n (fun k => el a i k * W k) = el a i n
  ker : ∀ x : Nat → G, (∀ i, i < n → gsum n (fun j => el a i j * x j) = 0) → ∀ j, j < n → x j = 0
  one : ∀ i, i < n → ∀ j, j < c → el a i j = dlt i j
variable {W : Nat → G} {a : List (List G)} {n c q : Nat}
def rstp (a : List (List G)) (n c q : Nat) : List (List G) := elm (nrm (swp a c (c + q)) (n + 1) c) n c n
end Go.Proofs.YtdcijljfgcjelaaGreat
namespace Go.Proofs.YtdcijljfgcjelaaGreat
set_option maxRecDepth 20000
open Go.RowKit
attribute [local irreducible] Calls
end Go.Proofs.YtdcijljfgcjelaaGreat
namespace Go.Proofs.YtdcijljfgcjelaaGreat
set_option maxRecDepth 20000
open Go.RowKit
attribute [local irreducible] Calls
def synP (ps : List Blk) (m : Nat) : List Blk := (List.range 3).map fun j => if j < m then nth (enc (ps.take (ps.length - 3))) j + nth ps (ps.length - 3 + j) else nth (enc (ps.take (ps.length - 3))) j
def synL (ps : List Blk) : List Blk := synP ps 3
end Go.Proofs.YtdcijljfgcjelaaGreat
namespace Go.Proofs.YtdcijljfgcjelaaGreat
set_option maxRecDepth 20000
open Go.RowKit
def ivs (l : List Int) : List Value := l.map (Value.int .i64)
theorem ivs_get {l : List Int} {k : Nat} (h : k < l.length) : (ivs l)[k * 1]? = some (iv (nth l k)) := by unfold ivs; exact get1 h
def ldv (ld : List Nat) : List Value := ld.map fun k : Nat => iv k
theorem ldv_get {ld : List Nat} {k : Nat} (h : k < ld.length) : (ldv ld)[k * 1]? = some (iv ((nth ld k : Nat) : Int)) := by unfold ldv; exact get1 (f := fun k : Nat => iv k) h
def bls (l : List Bool) : List Value := l.map Value.bool
theorem bls_get {l : List Bool} {k : Nat} (h : k < l.length) : (bls l)[k * 1]? = some (.bool (nth l k)) := by unfold bls; exact get1 h
theorem bls_len (l : List Bool) : (bls l).length = l.length := by simp [bls]
theorem elI : Elem Tryz.prog 29 3 (.int .i64 0) 1 8 := ⟨rfl, rfl, rfl, by omega⟩
theorem elBo : Elem Tryz.prog 36 4 (.bool false) 1 1 := ⟨rfl, rfl, rfl, by omega⟩
theorem ldv_snoc (l : List Nat) (i : Nat) : ldv l ++ [iv i] = ldv (l ++ [i]) := by unfold ldv; rw [List.map_append]; rfl
theorem bls_set (l : List Bool) (k : Nat) (x : Bool) : (bls l).set k (.bool x) = bls (l.set k x) := by unfold bls; rw [List.map_set]
def gn (n : Nat) (h : n < 256 := by omega) : G := ⟨n, h⟩
def lb (x : G) : Blk := ⟨[x, 0, 0, 0, 0, 0, 0, 0], rfl⟩
end Go.Proofs.YtdcijljfgcjelaaGreat
namespace Go.Proofs.YtdcijljfgcjelaaGreat
set_option maxRecDepth 20000
open Go.RowKit
attribute [local irreducible] Calls
theorem ldv_one (ld : List Nat) : ∀ u ∈ ldv ld, u.oneCell' = true := by intro u hu; simp only [ldv, List.mem_map] at hu; obtain ⟨x, _, rfl⟩ := hu; rfl
theorem Imp.rows_join (r1 r2 : List Row) (L : List Asrt) : Imp (rowsA r1 :: rowsA r2 :: L) (rowsA (r1 ++ r2) :: L) := by
  refine Imp.trans (Imp.unbun _ _) ?_
  refine Imp.trans (Imp.perm (M := rowsA r2 :: (r1.map Row.own ++ L)) List.perm_middle) ?_
  refine Imp.trans (Imp.unbun _ _) ?_
  refine Imp.trans (Imp.perm (M := (r1 ++ r2).map Row.own ++ L) ?_) (Imp.bun _ _)
  rw [List.map_append, ← List.append_assoc]
  exact List.perm_append_comm.append_right _
theorem matrix_m (n : Nat) (w : World) (h1 : 1 ≤ n) (h2 : n ≤ 13) : Calls Tryz.prog 135 #[iv n] w fun e w' => ∃ v' M, e = .returned v' ∧ H w M w' ∧
    ∃ A c rs, v' = .tuple #[.slice A rs.length c, iv 0] ∧ M = matM A c rs ∧ els rs = matx n ∧ rs.length = 3 :=
  (matrix_n n w h1 h2).mono fun e w' ⟨v', M, he, hM, A, c, rs, hv, hM2, hr, hl⟩ => ⟨v', matM A c rs, he, by
    subst hM2
    refine Imp.h (Imp.cons ?_) hM
    have := Imp.rows_of rs []
    rwa [List.append_nil] at this, A, c, rs, by rw [hl]; exact hv, rfl, hr, hl⟩
set_option maxHeartbeats 1000000 in
theorem generator_n (m n : Nat) (w : World) (hm : m = n + 3) (h1 : 1 ≤ n) (h2 : n ≤ 13) : Calls Tryz.prog 90 #[iv m] w fun e w' => ∃ v' M, e = .returned v' ∧ H w M w' ∧
    ∃ A c rs, v' = .slice A rs.length c ∧ M = matM A c rs ∧ els rs = genM n ∧ rs.length = m := by
  have hsub : IntKind.i64.wrap ((m : Int) - 3) = (n : Int) := by rw [IntWalk.i64_in _ (by omega)]; omega
  refine calls_wc (args := [iv m]) [2] [] Tryz.func90 rfl Tryz.ntmps90 rfl rfl rfl rfl (H.refl w) ?_
  refine WC.seq fun K hK => ?_
  refine WC.region rfl ?_
  refine wAS rfl rfl rfl rfl rfl ?_
  refine WL.nil (hK _ _ ?_); clear hK
  refine WC.seq fun K hK => ?_
  refine WC.region rfl ?_
  refine wMI rfl rfl rfl rfl rfl ?_
  refine wG rfl rfl (g_sub rfl (.mk rfl rfl) (.mk rfl rfl) hsub) ?_
  (refine WL.want rfl (WL1.callN rfl rfl rfl (.cons (.mk (v := .int _ _) rfl rfl) .nil) (fun w hw => identity_n n w (by omega) (by omega)) ?_); rintro _ _ ⟨A1, c1, r1, rfl, rfl, hr1, hl1⟩)
  refine wG rfl rfl (g_move rfl (.mk (v := .tuple _) rfl rfl)) ?_
  refine wG rfl rfl (g_extract rfl (.mk rfl rfl) rfl) ?_
  refine wG rfl rfl (g_extract rfl (.mk rfl rfl) rfl) ?_
  refine wAS rfl rfl rfl rfl rfl ?_
  refine wAI rfl rfl rfl rfl rfl ?_
  refine WL.nil (hK _ _ ?_); clear hK
  refine WC.seq fun K hK => ?_
  refine WC.region rfl ?_
  refine wMI rfl rfl rfl rfl rfl ?_
  refine wG rfl rfl (g_sub rfl (.mk rfl rfl) (.mk rfl rfl) hsub) ?_
  (refine WL.want rfl (WL1.callN rfl rfl rfl (.cons (.mk (v := .int _ _) rfl rfl) .nil) (fun w hw => matrix_m n w h1 h2) ?_); rintro _ _ ⟨A2, c2, r2, rfl, rfl, hr2, hl2⟩)
  refine wG rfl rfl (g_move rfl (.mk (v := .tuple _) rfl rfl)) ?_
  refine wG rfl rfl (g_extract rfl (.mk rfl rfl) rfl) ?_
  refine wG rfl rfl (g_extract rfl (.mk rfl rfl) rfl) ?_
  refine wAS rfl rfl rfl rfl rfl ?_
  refine wAI rfl rfl rfl rfl rfl ?_
  refine WL.nil (hK _ _ ?_); clear hK
  refine WC.seq fun K hK => ?_
  refine WC.region rfl ?_
  refine wMS rfl rfl rfl rfl rfl ?_
  refine wMS rfl rfl rfl rfl rfl ?_
  refine WL.want rfl (WL1.append elR rfl rfl (.mk rfl rfl) (.mk rfl rfl) (.tail (.tail (.head))) (fun w hw => Sl.of_vec hw (.head _)) (rowv_one _) (by unfold maxLen; omega) (by omega) (fun A21 c21 => ?_))
  refine wAS rfl rfl rfl rfl rfl ?_
  refine WL.nil (hK _ _ ?_); clear hK
  refine WC.ret ?_
  have hel : els (r1 ++ r2) = genM n := by unfold els at *; rw [List.map_append, hr1, hr2]; rfl
  have hln : (r1 ++ r2).length = m := by rw [List.length_append, hl1, hl2, hm]
  refine fun w' hw' => ⟨_, matM A21 c21 (r1 ++ r2), rfl, ?_, A21, c21, r1 ++ r2, by rw [List.length_append]; rfl, rfl, hel, hln⟩
  refine Imp.h ?_ hw'
  rw [matM, List.length_append, List.map_append]
  refine Imp.cons ?_
  refine Imp.trans (M := rowsA r1 :: rowsA r2 :: []) ?_ (Imp.rows_join r1 r2 [])
  exact Imp.pick (by repeat (first | exact .head | apply Take.tail)) (Imp.pick (by repeat (first | exact .head | apply Take.tail)) (Imp.nil _))
set_option maxHeartbeats 1000000 in
theorem possible_i (z : Int) (w : World) : Calls Tryz.prog 39 #[iv z] w fun e w' => e = .returned (.bool (decide (4 ≤ z ∧ z ≤ 16))) ∧ Below w.heap.size w w' := by
  by_cases h1 : 3 < z
  · by_cases h2 : z ≤ 16
    · refine calls_wc (args := [iv z]) [2] [] Tryz.func39 rfl Tryz.ntmps39 rfl rfl rfl rfl (H.refl w) ?_
      refine WC.seq fun K hK => ?_
      refine WC.region rfl ?_
      refine wAB rfl rfl rfl rfl rfl ?_
      refine WL.nil (hK _ _ ?_); clear hK
      refine WC.seq fun K hK => ?_
      refine WC.region rfl ?_
      refine wMI rfl rfl rfl rfl rfl ?_
      refine wG rfl rfl (g_gt rfl (.mk rfl rfl) (.mk rfl rfl) (decide_eq_true (by omega))) ?_
      refine wMB rfl rfl rfl rfl rfl ?_
      refine WL.wantG rfl rfl rfl rfl (WL1.give rfl (g_move rfl (.mk (v := .int _ _) rfl rfl)) ?_)
      refine WL.wantG rfl rfl rfl rfl (WL1.give rfl (g_le rfl (.mk rfl rfl) (.mk rfl rfl) (decide_eq_true (by omega))) ?_)
      refine wG rfl rfl (g_pickT rfl (.mk rfl rfl) (.mk (v := .bool _) rfl rfl)) ?_
      refine wAB rfl rfl rfl rfl rfl ?_
      refine WL.nil (hK _ _ ?_); clear hK
      refine WC.ret ?_
      exact fun w' hw' => ⟨by rw [decide_eq_true (show 4 ≤ z ∧ z ≤ 16 by omega)]; rfl, hw'.1⟩
    · refine calls_wc (args := [iv z]) [2] [] Tryz.func39 rfl Tryz.ntmps39 rfl rfl rfl rfl (H.refl w) ?_
      refine WC.seq fun K hK => ?_
      refine WC.region rfl ?_
      refine wAB rfl rfl rfl rfl rfl ?_
      refine WL.nil (hK _ _ ?_); clear hK
      refine WC.seq fun K hK => ?_
      refine WC.region rfl ?_
      refine wMI rfl rfl rfl rfl rfl ?_
      refine wG rfl rfl (g_gt rfl (.mk rfl rfl) (.mk rfl rfl) (decide_eq_true (by omega))) ?_
      refine wMB rfl rfl rfl rfl rfl ?_
      refine WL.wantG rfl rfl rfl rfl (WL1.give rfl (g_move rfl (.mk (v := .int _ _) rfl rfl)) ?_)
      refine WL.wantG rfl rfl rfl rfl (WL1.give rfl (g_le rfl (.mk rfl rfl) (.mk rfl rfl) (decide_eq_false (by omega))) ?_)
      refine wG rfl rfl (g_pickT rfl (.mk rfl rfl) (.mk (v := .bool _) rfl rfl)) ?_
      refine wAB rfl rfl rfl rfl rfl ?_
      refine WL.nil (hK _ _ ?_); clear hK
      refine WC.ret ?_
      exact fun w' hw' => ⟨by rw [decide_eq_false fun h => h2 h.2]; rfl, hw'.1⟩
  · refine calls_wc (args := [iv z]) [2] [] Tryz.func39 rfl Tryz.ntmps39 rfl rfl rfl rfl (H.refl w) ?_
    refine WC.seq fun K hK => ?_
    refine WC.region rfl ?_
    refine wAB rfl rfl rfl rfl rfl ?_
    refine WL.nil (hK _ _ ?_); clear hK
    refine WC.seq fun K hK => ?_
    refine WC.region rfl ?_
    refine wMI rfl rfl rfl rfl rfl ?_
    refine wG rfl rfl (g_gt rfl (.mk rfl rfl) (.mk rfl rfl) (decide_eq_false (by omega))) ?_
    refine wMB rfl rfl rfl rfl rfl ?_
    refine WL.skipG rfl rfl rfl rfl rfl rfl ?_
    refine WL.skipG rfl rfl rfl rfl rfl rfl ?_
    refine wG rfl rfl (g_pickF rfl (.mk rfl rfl) (.mk (v := .bool _) rfl rfl)) ?_
    refine wAB rfl rfl rfl rfl rfl ?_
    refine WL.nil (hK _ _ ?_); clear hK
    refine WC.ret ?_
    exact fun w' hw' => ⟨by rw [decide_eq_false fun h => h1 (by omega)]; rfl, hw'.1⟩
structure Wfr (n : Nat) (fr : List Nat) : Prop where
  len : fr.length = n
  lt : ∀ i, i < n → nth fr i < n + 3
  inc : ∀ i, i + 1 < n → nth fr i < nth fr (i + 1)
theorem incr_lt {fr : List Nat} {n : Nat} (inc : ∀ i, i + 1 < n → nth fr i < nth fr (i + 1)) : ∀ d i, i + d + 1 < n → nth fr i < nth fr (i + d + 1)
  | 0, i, h => inc i h
  | d + 1, i, h => Nat.lt_trans (incr_lt inc d i (by omega)) (inc (i + d + 1) (by omega))
theorem Wfr.helps {n : Nat} {fr : List Nat} (h : Wfr n fr) : Helps n fr := by
  refine ⟨h.len, h.lt, ?_⟩
  rw [List.nodup_iff_pairwise_ne, List.pairwise_iff_getElem]
  intro i j hi hj hij
  have := incr_lt h.inc (j - i - 1) i (by rw [← h.len]; omega)
  rw [show i + (j - i - 1) + 1 = j from by omega, nth_eq hi, nth_eq hj] at this
  omega
theorem mul_row {n : Nat} {rs : List Row} {fr : List Nat} (h : Helps n fr) (h1 : 1 ≤ n) (h2 : n ≤ 13) (hr : els rs = genM n) (hl : rs.length = n + 3) {to : Nat} (hto : to < n + 3) : mulM (els [nth rs to]) (invOf n fr) = [wts n fr to] := by
  obtain ⟨hs, _, _⟩ := invM_some (rows_shp h) (h.inv_eq h1 h2)
  have e1 : els [nth rs to] = [nth (genM n) to] := by unfold els; rw [List.map_cons, List.map_nil, els_row hr (by omega)]
  rw [e1, mulM]
  show [mrow _ _ _ 0 _] = _
  rw [mrow, hs.1, hs.2 0 (by omega), wts]
  congr 1
  refine List.map_congr_left fun k _ => gsum_congr fun j hj => ?_
  rw [← genM_el hto hj]; rfl
set_option maxHeartbeats 4000000 in
theorem weights_n (v : Value) (m n to : Nat) (fr : List Nat) (w : World) (hv : Sl w 1 v fr.length (ldv fr)) (hm : m = n + 3) (h1 : 1 ≤ n) (h2 : n ≤ 13) (hfr : Wfr n fr) (hto : to < m) :
    Calls Tryz.prog 41 #[iv m, v, iv to] w fun e w' => ∃ v' M, e = .returned v' ∧ H w M w' ∧ ∃ A c, v' = .tuple #[.slice A n c, iv 0] ∧ M = [vec A n c 5 1 (bvs (wts n fr to))] := by
  obtain ⟨A, c, rfl, hcc, hmm, hs⟩ := hv.open_
  have hfl := hfr.len
  have hsub : IntKind.i64.wrap ((m : Int) - 3) = (n : Int) := by rw [IntWalk.i64_in _ (by omega)]; omega
  have hpos : ∀ w', Calls Tryz.prog 39 #[iv m] w' fun e w2 => e = .returned (.bool true) ∧ Below w'.heap.size w' w2 := fun w' => by
    have := possible_i m w'
    rwa [decide_eq_true (by omega)] at this
  refine calls_wc (args := [iv m, .slice A fr.length c, iv to]) [6, 7] [] Tryz.func41 rfl Tryz.ntmps41 rfl rfl rfl rfl (H.refl w) ?_
  refine WC.seq fun K hK => ?_
  refine WC.region rfl ?_
  refine wAS rfl rfl rfl rfl rfl ?_
  refine wAI rfl rfl rfl rfl rfl ?_
  refine WL.nil (hK _ _ ?_); clear hK
  refine WC.seq fun K hK => ?_
  refine WC.seq fun K hK => ?_
  refine WC.region rfl ?_
  refine wMI rfl rfl rfl rfl rfl ?_
  refine WL.want rfl (WL1.callP rfl rfl rfl (.cons (.mk (v := .int _ _) rfl rfl) .nil) (fun w hw => hpos w) ?_)
  refine wG rfl rfl (g_notT rfl (.mk rfl rfl)) ?_
  refine wMB rfl rfl rfl rfl rfl ?_
  refine WL.wantG rfl rfl rfl rfl (WL1.give rfl (g_move rfl (.mk (v := .slice _ _ _) rfl rfl)) ?_)
  refine WL.wantG rfl rfl rfl rfl (WL1.give rfl (g_len rfl (.mk rfl rfl) rfl) ?_)
  refine WL.wantG rfl rfl rfl rfl (WL1.give rfl (g_move rfl (.mk (v := .int _ _) rfl rfl)) ?_)
  refine WL.wantG rfl rfl rfl rfl (WL1.give rfl (g_sub rfl (.mk rfl rfl) (.mk rfl rfl) hsub) ?_)
  refine WL.wantG rfl rfl rfl rfl (WL1.give rfl (g_ne rfl (.mk rfl rfl) (.mk rfl rfl) (decide_eq_false (by omega))) ?_)
  refine wG rfl rfl (g_pickF rfl (.mk rfl rfl) (.mk (v := .bool _) rfl rfl)) ?_
  refine wMB rfl rfl rfl rfl rfl ?_
  refine WL.wantG rfl rfl rfl rfl (WL1.give rfl (g_move rfl (.mk (v := .int _ _) rfl rfl)) ?_)
  refine WL.wantG rfl rfl rfl rfl (WL1.give rfl (g_lt rfl (.mk rfl rfl) (.mk rfl rfl) (decide_eq_false (by omega))) ?_)
  refine wG rfl rfl (g_pickF rfl (.mk rfl rfl) (.mk (v := .bool _) rfl rfl)) ?_
  refine wMB rfl rfl rfl rfl rfl ?_
  refine WL.wantG rfl rfl rfl rfl (WL1.give rfl (g_move rfl (.mk (v := .int _ _) rfl rfl)) ?_)
  refine WL.wantG rfl rfl rfl rfl (WL1.give rfl (g_move rfl (.mk (v := .int _ _) rfl rfl)) ?_)
  refine WL.wantG rfl rfl rfl rfl (WL1.give rfl (g_ge rfl (.mk rfl rfl) (.mk rfl rfl) (decide_eq_false (by omega))) ?_)
  refine wG rfl rfl (g_pickF rfl (.mk rfl rfl) (.mk (v := .bool _) rfl rfl)) ?_
  refine WL.nil (hK _ _ ?_); clear hK
  refine WC.cond_false (.mk rfl rfl) ?_
  refine WC.skip ?_
  (refine hK _ _ ?_; clear hK)
  refine WC.seq fun K hK => ?_
  refine WC.seq fun K hK => ?_
  refine WC.region rfl ?_
  refine wMS rfl rfl rfl rfl rfl ?_
  refine wG rfl rfl (g_len rfl (.mk rfl rfl) rfl) ?_
  refine wMI rfl rfl rfl rfl rfl ?_
  refine WL.nil (hK _ _ ?_); clear hK
  refine WC.block ?_
  refine WC.loop (36893487597663290304) (fun i : Nat => [(39, iv i)]) (fun _ => []) (fun i => i ≤ n) (fun i => n - i) 0 ⟨rfl, trivial⟩ (List.nil_sublist _) (by omega) ?_
  · intro i U hi
    by_cases hlt : i < n
    · have hgv := ldv_get (ld := fr) (k := i) (by omega)
      have hil := hfr.lt i hlt
      by_cases hi0 : i = 0
      · subst hi0
        refine WC.seq fun K hK => ?_
        refine WC.region rfl ?_
        refine wG rfl rfl (g_lt rfl (.mk rfl rfl) (.mk rfl rfl) (decide_eq_true (by omega))) ?_
        refine WL.nil (hK _ _ ?_); clear hK
        refine WC.seq fun K hK => ?_
        refine WC.cond_true (.mk rfl rfl) ?_
        refine WC.skip ?_
        (refine hK _ _ ?_; clear hK)
        refine WC.seq fun K hK => ?_
        refine WC.block ?_
        refine WC.seq fun K hK => ?_
        refine WC.region rfl ?_
        refine wMI rfl rfl rfl rfl rfl ?_
        refine wG rfl rfl (g_indexAddr (sz := 1) rfl (.mk rfl rfl) (.mk rfl rfl) rfl rfl (show _ = ((0 : Nat) : Int) from rfl) (by omega) (fun _ _ => sl_some hs (by omega))) ?_
        refine wG rfl rfl (g_load rfl (.mk rfl rfl) rfl (rd_sl hs hgv)) ?_
        refine wAI rfl rfl rfl rfl rfl ?_
        refine wAI rfl rfl rfl rfl rfl ?_
        refine WL.nil (hK _ _ ?_); clear hK
        refine WC.seq fun K hK => ?_
        refine WC.region rfl ?_
        refine wMI rfl rfl rfl rfl rfl ?_
        refine wG rfl rfl (g_lt rfl (.mk rfl rfl) (.mk rfl rfl) (decide_eq_false (by omega))) ?_
        refine wMB rfl rfl rfl rfl rfl ?_
        refine WL.wantG rfl rfl rfl rfl (WL1.give rfl (g_move rfl (.mk (v := .int _ _) rfl rfl)) ?_)
        refine WL.wantG rfl rfl rfl rfl (WL1.give rfl (g_move rfl (.mk (v := .int _ _) rfl rfl)) ?_)
        refine WL.wantG rfl rfl rfl rfl (WL1.give rfl (g_ge rfl (.mk rfl rfl) (.mk rfl rfl) (decide_eq_false (by omega))) ?_)
        refine wG rfl rfl (g_pickF rfl (.mk rfl rfl) (.mk (v := .bool _) rfl rfl)) ?_
        refine wMB rfl rfl rfl rfl rfl ?_
        refine WL.wantG rfl rfl rfl rfl (WL1.give rfl (g_move rfl (.mk (v := .int _ _) rfl rfl)) ?_)
        refine WL.wantG rfl rfl rfl rfl (WL1.give rfl (g_gt rfl (.mk rfl rfl) (.mk rfl rfl) (decide_eq_false (by omega))) ?_)
        refine WL.wantG rfl rfl rfl rfl (WL1.give rfl (g_move rfl (.mk (v := .bool _) rfl rfl)) ?_)
        refine WL.skipG rfl rfl rfl rfl rfl rfl ?_
        refine WL.skipG rfl rfl rfl rfl rfl rfl ?_
        refine WL.skipG rfl rfl rfl rfl rfl rfl ?_
        refine WL.skipG rfl rfl rfl rfl rfl rfl ?_
        refine WL.skipG rfl rfl rfl rfl rfl rfl ?_
        refine WL.skipG rfl rfl rfl rfl rfl rfl ?_
        refine WL.skipG rfl rfl rfl rfl rfl rfl ?_
        refine WL.wantG rfl rfl rfl rfl (WL1.give rfl (g_pickF rfl (.mk rfl rfl) (.mk (v := .bool _) rfl rfl)) ?_)
        refine wG rfl rfl (g_pickF rfl (.mk rfl rfl) (.mk (v := .bool _) rfl rfl)) ?_
        refine WL.nil (hK _ _ ?_); clear hK
        refine WC.cond_false (.mk rfl rfl) ?_
        refine WC.skip ?_
        (refine hK _ _ ?_; clear hK)
        refine WC.region rfl ?_
        refine wG rfl rfl (g_add rfl (.mk rfl rfl) (.mk rfl rfl) (IntWalk.i64_in _ (by omega))) ?_
        refine wMI rfl rfl rfl rfl rfl ?_
        refine WL.nil ?_
        exact ⟨0 + 1, (by repeat (first | with_reducible exact Out.refl _ _ | refine Out.set rfl ?_ | refine Out.put rfl ?_ | refine Out.sets rfl ?_ | refine Out.hav rfl ?_ | exact Out.refl _ _)), ⟨rfl, trivial⟩, .refl _, by omega, by omega⟩
      · have hsb : IntKind.i64.wrap ((i : Int) - 1) = ((i - 1 : Nat) : Int) := by rw [IntWalk.i64_in _ (by omega)]; omega
        have hgv2 := ldv_get (ld := fr) (k := i - 1) (by omega)
        have hic := hfr.inc (i - 1) (by omega)
        rw [show i - 1 + 1 = i from by omega] at hic
        refine WC.seq fun K hK => ?_
        refine WC.region rfl ?_
        refine wG rfl rfl (g_lt rfl (.mk rfl rfl) (.mk rfl rfl) (decide_eq_true (by omega))) ?_
        refine WL.nil (hK _ _ ?_); clear hK
        refine WC.seq fun K hK => ?_
        refine WC.cond_true (.mk rfl rfl) ?_
        refine WC.skip ?_
        (refine hK _ _ ?_; clear hK)
        refine WC.seq fun K hK => ?_
        refine WC.block ?_
        refine WC.seq fun K hK => ?_
        refine WC.region rfl ?_
        refine wMI rfl rfl rfl rfl rfl ?_
        refine wG rfl rfl (g_indexAddr (sz := 1) rfl (.mk rfl rfl) (.mk rfl rfl) rfl rfl rfl (by omega) (fun _ _ => sl_some hs (by omega))) ?_
        refine wG rfl rfl (g_load rfl (.mk rfl rfl) rfl (rd_sl hs hgv)) ?_
        refine wAI rfl rfl rfl rfl rfl ?_
        refine wAI rfl rfl rfl rfl rfl ?_
        refine WL.nil (hK _ _ ?_); clear hK
        refine WC.seq fun K hK => ?_
        refine WC.region rfl ?_
        refine wMI rfl rfl rfl rfl rfl ?_
        refine wG rfl rfl (g_lt rfl (.mk rfl rfl) (.mk rfl rfl) (decide_eq_false (by omega))) ?_
        refine wMB rfl rfl rfl rfl rfl ?_
        refine WL.wantG rfl rfl rfl rfl (WL1.give rfl (g_move rfl (.mk (v := .int _ _) rfl rfl)) ?_)
        refine WL.wantG rfl rfl rfl rfl (WL1.give rfl (g_move rfl (.mk (v := .int _ _) rfl rfl)) ?_)
        refine WL.wantG rfl rfl rfl rfl (WL1.give rfl (g_ge rfl (.mk rfl rfl) (.mk rfl rfl) (decide_eq_false (by omega))) ?_)
        refine wG rfl rfl (g_pickF rfl (.mk rfl rfl) (.mk (v := .bool _) rfl rfl)) ?_
        refine wMB rfl rfl rfl rfl rfl ?_
        refine WL.wantG rfl rfl rfl rfl (WL1.give rfl (g_move rfl (.mk (v := .int _ _) rfl rfl)) ?_)
        refine WL.wantG rfl rfl rfl rfl (WL1.give rfl (g_gt rfl (.mk rfl rfl) (.mk rfl rfl) (decide_eq_true (by omega))) ?_)
        refine WL.wantG rfl rfl rfl rfl (WL1.give rfl (g_move rfl (.mk (v := .bool _) rfl rfl)) ?_)
        refine WL.wantG rfl rfl rfl rfl (WL1.give rfl (g_move rfl (.mk (v := .slice _ _ _) rfl rfl)) ?_)
        refine WL.wantG rfl rfl rfl rfl (WL1.give rfl (g_move rfl (.mk (v := .int _ _) rfl rfl)) ?_)
        refine WL.wantG rfl rfl rfl rfl (WL1.give rfl (g_sub rfl (.mk rfl rfl) (.mk rfl rfl) hsb) ?_)
        refine WL.wantG rfl rfl rfl rfl (WL1.give rfl (g_indexAddr (sz := 1) rfl (.mk rfl rfl) (.mk rfl rfl) rfl rfl rfl (by omega) (fun _ _ => sl_some hs (by omega))) ?_)
        refine WL.wantG rfl rfl rfl rfl (WL1.give rfl (g_load rfl (.mk rfl rfl) rfl (rd_sl hs hgv2)) ?_)
        refine WL.wantG rfl rfl rfl rfl (WL1.give rfl (g_move rfl (.mk (v := .int _ _) rfl rfl)) ?_)
        refine WL.wantG rfl rfl rfl rfl (WL1.give rfl (g_ge rfl (.mk rfl rfl) (.mk rfl rfl) (decide_eq_false (by omega))) ?_)
        refine WL.wantG rfl rfl rfl rfl (WL1.give rfl (g_pickT rfl (.mk rfl rfl) (.mk (v := .bool _) rfl rfl)) ?_)
        refine wG rfl rfl (g_pickF rfl (.mk rfl rfl) (.mk (v := .bool _) rfl rfl)) ?_
        refine WL.nil (hK _ _ ?_); clear hK
        refine WC.cond_false (.mk rfl rfl) ?_
        refine WC.skip ?_
        (refine hK _ _ ?_; clear hK)
        refine WC.region rfl ?_
        refine wG rfl rfl (g_add rfl (.mk rfl rfl) (.mk rfl rfl) (IntWalk.i64_in _ (by omega))) ?_
        refine wMI rfl rfl rfl rfl rfl ?_
        refine WL.nil ?_
        exact ⟨i + 1, (by repeat (first | with_reducible exact Out.refl _ _ | refine Out.set rfl ?_ | refine Out.put rfl ?_ | refine Out.sets rfl ?_ | refine Out.hav rfl ?_ | exact Out.refl _ _)), ⟨rfl, trivial⟩, .refl _, by omega, by omega⟩
    · obtain rfl : i = n := by omega
      have hH := hfr.helps
      have hinvq := hH.inv_eq h1 h2
      refine WC.seq fun K hK => ?_
      refine WC.region rfl ?_
      refine wG rfl rfl (g_lt rfl (.mk rfl rfl) (.mk rfl rfl) (decide_eq_false (by omega))) ?_
      refine WL.nil (hK _ _ ?_); clear hK
      refine WC.seq fun K hK => ?_
      refine WC.cond_false (.mk rfl rfl) ?_
      refine WC.exit ?_
      (clear hK; refine hK _ _ ?_; clear hK)
      refine WC.seq fun K hK => ?_
      refine WC.region rfl ?_
      refine wMI rfl rfl rfl rfl rfl ?_
      (refine WL.want rfl (WL1.callN rfl rfl rfl (.cons (.mk (v := .int _ _) rfl rfl) .nil) (fun w hw => generator_n m i w hm h1 h2) ?_); rintro _ _ ⟨Ag, cg, rg, rfl, rfl, hrg, hlg⟩)
      refine wAS rfl rfl rfl rfl rfl ?_
      refine WL.nil (hK _ _ ?_); clear hK
      refine WC.seq fun K hK => ?_
      refine WC.region rfl ?_
      refine wAS rfl rfl rfl rfl rfl ?_
      refine WL.nil (hK _ _ ?_); clear hK
      refine WC.seq fun K hK => ?_
      refine WC.seq fun K hK => ?_
      refine WC.region rfl ?_
      refine wMS rfl rfl rfl rfl rfl ?_
      refine wG rfl rfl (g_len rfl (.mk rfl rfl) rfl) ?_
      refine wMI rfl rfl rfl rfl rfl ?_
      refine WL.nil (hK _ _ ?_); clear hK
      refine WC.block ?_
      refine WC.nilvec 99 1 ?_
      have hsel : ∀ k, k < fr.length → nth fr k < rg.length := fun k hk => by have := hfr.lt k (by omega); omega
      have hrow : ∀ k, k < rg.length → (nth rg k).l.length = i := fun k hk => by rw [els_row hrg hk]; exact genM_rowlen (by omega)
      refine WC.loopI3 (2417261343418899643770880) (fun (k : Nat) (O : Option Addr) (oc : Nat) => [(69, iv k), (11, .slice O k oc)]) (fun k O oc => [vec O k oc 99 1 (((fr.map fun k => nth rg k).map Row.v).take k), vec Ag rg.length cg 99 1 (rg.map Row.v), rowsA rg]) (fun k _ _ => k ≤ i) (fun k _ _ => i - k) 0 none 0 ⟨rfl, rfl, trivial⟩ (Imp.sub (by repeat (first | exact List.nil_sublist _ | exact List.Sublist.refl _ | apply List.Sublist.cons_cons | apply List.Sublist.cons))) (by omega) ?_
      intro k O oc U2 hk
      by_cases hlt2 : k < i
      · have hks := hsel k (by omega)
        have hgv := ldv_get (ld := fr) (k := k) (by omega)
        have htk : ((fr.map fun k => nth rg k).map Row.v).take (k + 1) = ((fr.map fun k => nth rg k).map Row.v).take k ++ [(nth rg (nth fr k)).v] := by
          rw [List.take_add_one, List.getElem?_map, List.getElem?_map, nth_get (by omega)]; rfl
        refine WC.seq fun K hK => ?_
        refine WC.region rfl ?_
        refine wG rfl rfl (g_lt rfl (.mk rfl rfl) (.mk rfl rfl) (decide_eq_true (by omega))) ?_
        refine WL.nil (hK _ _ ?_); clear hK
        refine WC.seq fun K hK => ?_
        refine WC.cond_true (.mk rfl rfl) ?_
        refine WC.skip ?_
        (refine hK _ _ ?_; clear hK)
        refine WC.seq fun K hK => ?_
        refine WC.block ?_
        refine WC.seq fun K hK => ?_
        refine WC.region rfl ?_
        refine wG rfl rfl (g_indexAddr (sz := 1) rfl (.mk rfl rfl) (.mk rfl rfl) rfl rfl rfl (by omega) (fun _ _ => sl_some hs (by omega))) ?_
        refine wG rfl rfl (g_load rfl (.mk rfl rfl) rfl (rd_sl hs hgv)) ?_
        refine wAI rfl rfl rfl rfl rfl ?_
        refine WL.nil (hK _ _ ?_); clear hK
        refine WC.region rfl ?_
        refine wMS rfl rfl rfl rfl rfl ?_
        refine wMS rfl rfl rfl rfl rfl ?_
        refine wMI rfl rfl rfl rfl rfl ?_
        refine wG rfl rfl (g_indexAddr (sz := 1) rfl (.mk rfl rfl) (.mk rfl rfl) rfl rfl rfl (by omega) (fun w hw => vec_some hw (.tail _ (.head _)) (by omega))) ?_
        refine wG rfl rfl (g_load rfl (.mk rfl rfl) rfl (rd_vec (.tail _ (.head _)) (get1 (by omega)))) ?_
        refine WL.want rfl (WL1.lit (cs := [_]) elR rfl rfl rfl (.cons (.mk (v := .slice _ _ _) rfl rfl) .nil) rfl (by first | (simp [Value.cells]; done) | fail) rfl rfl (fun b78 => ?_))
        refine WL.want rfl (WL1.append elR rfl rfl (.mk rfl rfl) (.mk rfl rfl) (.tail (.head)) (fun w hw => Sl.of_vec hw (.head _)) (all1 rfl) (by unfold maxLen; omega) (by omega) (fun A79 c79 => ?_))
        refine wAS rfl rfl rfl rfl rfl ?_
        refine WL.nil (hK _ _ ?_); clear hK
        refine WC.region rfl ?_
        refine wG rfl rfl (g_add rfl (.mk rfl rfl) (.mk rfl rfl) (IntWalk.i64_in _ (by omega))) ?_
        refine wMI rfl rfl rfl rfl rfl ?_
        refine WL.nil ?_
        exact ⟨k + 1, _, _, (by repeat (first | with_reducible exact Out.refl _ _ | refine Out.set rfl ?_ | refine Out.put rfl ?_ | refine Out.sets rfl ?_ | refine Out.hav rfl ?_ | exact Out.refl _ _)), ⟨rfl, rfl, trivial⟩, by rw [htk]; exact Imp.cons (Imp.sub (by repeat (first | exact List.nil_sublist _ | exact List.Sublist.refl _ | apply List.Sublist.cons_cons | apply List.Sublist.cons))), by omega, by omega⟩
      · obtain rfl : k = i := by omega
        have hsq : (fr.map fun k => nth rg k).length = k := by rw [List.length_map, hfl]
        have htl : ((fr.map fun k => nth rg k).map Row.v).take k = (fr.map fun k => nth rg k).map Row.v := List.take_of_length_le (by rw [List.length_map, hsq]; exact Nat.le_refl _)
        rw [htl]
        have hrr : ∀ i, i < fr.length → nth (fr.map fun k => nth rg k) i = nth rg (nth fr i) := fun i hi => nth_map _ hi
        have hel : els (fr.map fun k => nth rg k) = rowsM (genM k) fr := by rw [els_some rg fr hsel, hrg]
        have hgs : Good (els (fr.map fun k => nth rg k)) := good_of (by omega) (by omega) (by rw [hrr 0 (by omega), hrow _ (hsel 0 (by omega))]; omega) (by rw [hrr 0 (by omega), hrow _ (hsel 0 (by omega))]; omega) fun q hq => by rw [hrr q (by omega), hrr 0 (by omega), hrow _ (hsel q (by omega)), hrow _ (hsel 0 (by omega))]
        have hsqr : (nth (fr.map fun k => nth rg k) 0).l.length = (fr.map fun k => nth rg k).length := by rw [hrr 0 (by omega), hrow _ (hsel 0 (by omega)), hsq]
        have hinv : ∀ w', H w [vec O k oc 99 1 ((fr.map fun k => nth rg k).map Row.v), vec Ag rg.length cg 99 1 (rg.map Row.v), rowsA rg] w' → Calls Tryz.prog 91 #[.slice O k oc] w' fun e w2 => ∃ v' M, e = .returned v' ∧ H w' M w2 ∧ ∃ A cc rs, v' = .tuple #[.slice A rs.length cc, iv 0] ∧ M = matM A cc rs ∧ els rs = invOf k fr ∧ rs.length = (fr.map fun k => nth rg k).length := fun w' hw' => by
          have hmt := MatAt.some (va := .slice Ag rg.length cg) (ra := rg) (sel := fr) (A := O) (c := oc) (MatAt.of_rowsA hw' (.tail _ (.head _)) (.tail _ (.tail _ (.head _)))) hsel hw' (by rw [hfl]; exact .head _)
          rw [hfl] at hmt
          exact inverse_n _ _ _ w' hmt hgs hsqr (by rw [hel]; exact hinvq)
        have hshp := (invM_some (rows_shp hH) hinvq).1
        have hrt := hrow to (by omega)
        have hgt : Good (els [nth rg to]) := by
          refine good_of (rs := [nth rg to]) (Nat.le_refl 1) (by show 1 ≤ 64; omega) (by show 1 ≤ (nth rg to).l.length; omega) (by show (nth rg to).l.length ≤ 64; omega) fun q hq => ?_
          have : q = 0 := by have : q < 1 := hq; omega
          subst this; rfl
        refine WC.seq fun K hK => ?_
        refine WC.region rfl ?_
        refine wG rfl rfl (g_lt rfl (.mk rfl rfl) (.mk rfl rfl) (decide_eq_false (by omega))) ?_
        refine WL.nil (hK _ _ ?_); clear hK
        refine WC.seq fun K hK => ?_
        refine WC.cond_false (.mk rfl rfl) ?_
        refine WC.exit ?_
        (clear hK; refine hK _ _ ?_; clear hK)
        refine WC.seq fun K hK => ?_
        refine WC.region rfl ?_
        refine wMS rfl rfl rfl rfl rfl ?_
        (refine WL.want rfl (WL1.callN rfl rfl rfl (.cons (.mk (v := .slice _ _ _) rfl rfl) .nil) (fun w hw => hinv w hw) ?_); rintro _ _ ⟨Ai, ci, ri, rfl, rfl, hri, hli⟩)
        refine wG rfl rfl (g_move rfl (.mk (v := .tuple _) rfl rfl)) ?_
        refine wG rfl rfl (g_extract rfl (.mk rfl rfl) rfl) ?_
        refine wG rfl rfl (g_extract rfl (.mk rfl rfl) rfl) ?_
        refine wAS rfl rfl rfl rfl rfl ?_
        refine wAI rfl rfl rfl rfl rfl ?_
        refine WL.nil (hK _ _ ?_); clear hK
        refine WC.seq fun K hK => ?_
        refine WC.seq fun K hK => ?_
        refine WC.region rfl ?_
        refine wMI rfl rfl rfl rfl rfl ?_
        refine wG rfl rfl (g_ne rfl (.mk rfl rfl) (.mk rfl rfl) (decide_eq_false (by omega))) ?_
        refine WL.nil (hK _ _ ?_); clear hK
        refine WC.cond_false (.mk rfl rfl) ?_
        refine WC.skip ?_
        (refine hK _ _ ?_; clear hK)
        have hgi : Good (els ri) := good_of (by omega) (by omega) (by rw [els_row hri (by omega), hshp.2 0 (by omega)]; omega) (by rw [els_row hri (by omega), hshp.2 0 (by omega)]; omega) fun q hq => by rw [els_row hri hq, els_row hri (by omega), hshp.2 q (by omega), hshp.2 0 (by omega)]
        have hmr := mul_row hH h1 h2 hrg (by omega) (to := to) (by omega)
        rw [← hri] at hmr
        have hml : ∀ (b : Nat) (w' : World) (L : List Asrt), H w L w' → vec (some ⟨b, 0, none⟩) 1 1 99 1 [(nth rg to).v] ∈ L → rowsA rg ∈ L → vec Ai ri.length ci 99 1 (ri.map Row.v) ∈ L → rowsA ri ∈ L → Calls Tryz.prog 92 #[.slice (some ⟨b, 0, none⟩) 1 1, .slice Ai ri.length ci] w' fun e w2 => ∃ v' M, e = .returned v' ∧ H w' M w2 ∧ ∃ A cc r0, v' = .tuple #[.slice A 1 cc, iv 0] ∧ M = [vec A 1 cc 99 1 [r0.v], rowsA [r0]] ∧ r0.l = wts k fr to := fun b w' L hw' m1 m2 m3 m4 => by
          have hma : MatAt w' (.slice (some ⟨b, 0, none⟩) 1 1) [nth rg to] := ⟨Sl.of_vec hw' m1, fun r hr => by
            rw [List.mem_singleton] at hr; subst hr; exact Sl.of_rowA hw' m2 (by omega)⟩
          refine (mul_n _ _ [nth rg to] ri w' hma (MatAt.of_rowsA hw' m3 m4) hgt hgi (by show (nth rg to).l.length = _; omega)).mono ?_
          rintro e w2 ⟨v', M, rfl, hM, A, cc, ro, rfl, rfl, hro, hlo⟩
          obtain ⟨r0, rfl⟩ := List.length_eq_one_iff.1 hlo
          refine ⟨_, _, rfl, hM, A, cc, r0, rfl, rfl, ?_⟩
          rw [hmr] at hro
          simpa [els] using hro
        refine WC.seq fun K hK => ?_
        refine WC.region rfl ?_
        refine wMS rfl rfl rfl rfl rfl ?_
        refine wMI rfl rfl rfl rfl rfl ?_
        refine wG rfl rfl (g_indexAddr (sz := 1) rfl (.mk rfl rfl) (.mk rfl rfl) rfl rfl rfl (by omega) (fun w hw => vec_some hw (.tail _ (.tail _ (.tail _ (.head _)))) (by omega))) ?_
        refine wG rfl rfl (g_load rfl (.mk rfl rfl) rfl (rd_vec (.tail _ (.tail _ (.tail _ (.head _)))) (get1 (by omega)))) ?_
        refine WL.want rfl (WL1.lit (cs := [_]) elR rfl rfl rfl (.cons (.mk (v := .slice _ _ _) rfl rfl) .nil) rfl (by first | (simp [Value.cells]; done) | fail) rfl rfl (fun b93 => ?_))
        refine wMS rfl rfl rfl rfl rfl ?_
        (refine WL.want rfl (WL1.callN rfl rfl rfl (.cons (.mk (v := .slice _ _ _) rfl rfl) (.cons (.mk (v := .slice _ _ _) rfl rfl) .nil)) (fun w hw => hml _ w _ hw (by repeat (first | exact .head _ | apply List.Mem.tail)) (by repeat (first | exact .head _ | apply List.Mem.tail)) (by repeat (first | exact .head _ | apply List.Mem.tail)) (by repeat (first | exact .head _ | apply List.Mem.tail))) ?_); rintro _ _ ⟨Ap, cp, r0, rfl, rfl, hr0⟩)
        refine wG rfl rfl (g_move rfl (.mk (v := .tuple _) rfl rfl)) ?_
        refine wG rfl rfl (g_extract rfl (.mk rfl rfl) rfl) ?_
        refine wG rfl rfl (g_extract rfl (.mk rfl rfl) rfl) ?_
        refine wAS rfl rfl rfl rfl rfl ?_
        refine wAI rfl rfl rfl rfl rfl ?_
        refine WL.nil (hK _ _ ?_); clear hK
        refine WC.seq fun K hK => ?_
        refine WC.region rfl ?_
        refine wMS rfl rfl rfl rfl rfl ?_
        refine wG rfl rfl (g_indexAddr (sz := 1) rfl (.mk rfl rfl) (.mk rfl rfl) rfl rfl (show _ = ((0 : Nat) : Int) from rfl) (by omega) (fun w hw => vec_some hw (.head _) (by omega))) ?_
        refine wG rfl rfl (g_load rfl (.mk rfl rfl) rfl (rd_vec (.head _) (show ([r0.v] : List Value)[0 * 1]? = some r0.v from rfl))) ?_
        refine wAS rfl rfl rfl rfl rfl ?_
        refine wAI rfl rfl rfl rfl rfl ?_
        refine WL.nil (hK _ _ ?_); clear hK
        refine WC.ret ?_
        have hr0l : r0.l.length = k := by rw [hr0, wts_len]
        have hown : r0.own = vec r0.A k r0.c 5 1 (bvs (wts k fr to)) := by rw [Row.own, hr0l, hr0]
        refine fun w' hw' => ⟨_, [r0.own], rfl, ?_, r0.A, r0.c, ?_, by rw [hown]⟩
        · refine Imp.h ?_ hw'
          exact Imp.trans (M := [rowsA [r0]]) (Imp.pick (by repeat (first | exact .head | apply Take.tail)) (Imp.nil _)) (Imp.unbun [r0.own] [])
        · show Value.tuple #[r0.v, iv 0] = _
          rw [Row.v, hr0l]
end Go.Proofs.YtdcijljfgcjelaaGreat
namespace Go.Proofs.YtdcijljfgcjelaaGreat
set_option maxRecDepth 20000
open Go.RowKit
structure IRow where
  A : Option Addr
  c : Nat
  l : List Nat
instance : Inhabited IRow := ⟨⟨none, 0, []⟩⟩
def IRow.v (r : IRow) : Value := .slice r.A r.l.length r.c
def IRow.own (r : IRow) : Asrt := vec r.A r.l.length r.c 3 1 (ldv r.l)
def IMat (w : World) (v : Value) (rs : List IRow) : Prop := Sl w 1 v rs.length (rs.map IRow.v) ∧ ∀ r ∈ rs, Sl w 1 r.v r.l.length (ldv r.l)
theorem IMat.below {w w' : World} {v : Value} {rs : List IRow} (h : IMat w v rs) (hb : Below w.heap.size w w') : IMat w' v rs := ⟨h.1.below hb, fun r hr => (h.2 r hr).below hb⟩
theorem IMat.row {w : World} {v : Value} {rs : List IRow} (h : IMat w v rs) {k : Nat} (hk : k < rs.length) : Sl w 1 (nth rs k).v (nth rs k).l.length (ldv (nth rs k).l) := h.2 _ (nth_mem hk)
abbrev rowsI (rs : List IRow) : Asrt := bun (rs.map IRow.own)
theorem elRI : Elem Tryz.prog 59 29 (.slice none 0 0) 1 24 := ⟨by kernel_rfl, by kernel_rfl, rfl, by decide⟩
theorem irowv_get {rs : List IRow} {k : Nat} (h : k < rs.length) : (rs.map IRow.v)[k * 1]? = some (nth rs k).v := get1 h
section
variable {w0 w : World} {L : List Asrt}
theorem rowI_own {rs : List IRow} {k : Nat} (hw : H w0 L w) (hm : rowsI rs ∈ L) (hk : k < rs.length) : w.ownsRow 0 3 1 (nth rs k).v (nth rs k).l.length (ldv (nth rs k).l) :=
  (Sep.in_ (hw.2.in_ _ hm).1 (nth rs k).own (List.mem_map_of_mem (nth_mem hk))).1
theorem Sl.of_rowI {rs : List IRow} {k : Nat} (hw : H w0 L w) (hm : rowsI rs ∈ L) (hk : k < rs.length) : Sl w 1 (nth rs k).v (nth rs k).l.length (ldv (nth rs k).l) := Sl.of_own (rowI_own hw hm hk)
theorem IMat.of_rows {A : Option Addr} {n c : Nat} {rs : List IRow} (hw : H w0 L w) (h0 : vec A n c 29 1 (rs.map IRow.v) ∈ L) (h : rowsI rs ∈ L) (hn : rs.length = n) : IMat w (.slice A n c) rs := by
  subst hn
  exact ⟨Sl.of_vec hw h0, fun r hr => by
    obtain ⟨k, hk, rfl⟩ := List.getElem_of_mem hr
    have := Sl.of_rowI hw h hk
    rwa [nth_eq hk] at this⟩
end
theorem rowsI_new {rs : List IRow} {r : IRow} {L : List Asrt} : Imp (r.own :: rowsI rs :: L) (rowsI (rs ++ [r]) :: L) := by
  unfold rowsI
  rw [List.map_append]
  exact Imp.new
theorem rowsI_none {L : List Asrt} : Imp L (rowsI [] :: L) := Imp.none
end Go.Proofs.YtdcijljfgcjelaaGreat
