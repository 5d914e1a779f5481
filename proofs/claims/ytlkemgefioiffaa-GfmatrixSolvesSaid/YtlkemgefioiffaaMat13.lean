/- The reference's first independent rows, walked. No condition. -/
import Derived.Test.YtlkemgefioiffaaMat12
namespace Go.Proofs.Ytlkemgefioiffaa
open Go.RowKit
attribute [local irreducible] Calls
/-- The reference's state: the basis. -/
structure RefS where
  R : Option Addr
  rc : Nat
  rs : List Row
set_option maxRecDepth 20000 in
set_option maxHeartbeats 4000000 in
theorem rindep_n (va : Value) (ra : List Row) (w : World) (ha : MatAt w va ra) (hg : Good (els ra)) :
    Calls Try.prog 15 #[va] w fun e w' => ∃ v' M, e = .returned v' ∧ H w M w' ∧ ∃ A c, v' = .slice A (indep (els ra)).length c ∧ M = [vec A (indep (els ra)).length c 3 1 (ldv (indep (els ra)))] := by
  obtain ⟨A, c, rfl, hcc, hm, hs⟩ := ha.1.open_
  obtain ⟨g1, g2, g3, g4⟩ := hg.parts
  obtain ⟨m, hmm⟩ : ∃ m, m = els ra := ⟨_, rfl⟩
  obtain ⟨n, hn⟩ : ∃ n, n = (nth ra 0).l.length := ⟨_, rfl⟩
  have hml : m.length = ra.length := by rw [hmm, els_len]
  have hrow : ∀ i, i < ra.length → (nth ra i).l.length = n := fun i hi => by rw [hg.row hi, hn]
  have hmi : ∀ i, i < ra.length → nth m i = (nth ra i).l := fun i hi => by rw [hmm, els_at hi]
  have hrows : ∀ i, i < m.length → (nth m i).length = n := fun i hi => by rw [hmi i (by omega)]; exact hrow i (by omega)
  have hok := indS_ok (m := m) (n := n) hrows
  have hinv := indS_inv (m := m) (n := n) hrows
  refine calls_wc (args := [.slice A ra.length c]) [2] [] Try.func15 rfl Try.ntmps15 rfl rfl rfl rfl (H.refl w) ?_
  (refine WC.seq ?_; intro K hK)
  refine WC.region rfl ?_
  refine WL.want rfl (WL1.give rfl (g_assign rfl (.mk (v := .slice _ _ _) rfl rfl)) ?_)
  refine WL.nil ?_
  (refine hK _ _ ?_; clear hK)
  (refine WC.seq ?_; intro K hK)
  refine WC.region rfl ?_
  refine WL.want rfl (WL1.give rfl (g_assign rfl (.mk (v := .slice _ _ _) rfl rfl)) ?_)
  refine WL.nil ?_
  (refine hK _ _ ?_; clear hK)
  (refine WC.seq ?_; intro K hK)
  refine WC.region rfl ?_
  refine WL.want rfl (WL1.give rfl (g_assign rfl (.mk (v := .slice _ _ _) rfl rfl)) ?_)
  refine WL.nil ?_
  (refine hK _ _ ?_; clear hK)
  (refine WC.seq ?_; intro K hK)
  (refine WC.seq ?_; intro K hK)
  refine WC.region rfl ?_
  refine WL.want rfl (WL1.give rfl (g_assign rfl (.mk (v := .int _ _) rfl rfl)) ?_)
  refine WL.nil ?_
  (refine hK _ _ ?_; clear hK)
  refine WC.block ?_
  refine WC.nilvec 3 1 (WC.nilvec 28 1 ?_)
  refine WC.loopI4 (2361183241434822606840) (fun (i : Nat) (s : RefS) (O : Option Addr) (oc : Nat) => [(5, iv i), (3, .slice O (indS m i).2.2.length oc), (4, .slice s.R s.rs.length s.rc)]) (fun i s O oc => [vec s.R s.rs.length s.rc 28 1 (s.rs.map Row.v), rowsA s.rs, vec O (indS m i).2.2.length oc 3 1 (ldv (indS m i).2.2)]) (fun i s _ _ => i ≤ ra.length ∧ els s.rs = (indS m i).1) (fun i _ _ _ => ra.length - i) 0 ⟨none, 0, []⟩ none 0 ⟨rfl, rfl, rfl, trivial⟩ ?_ ⟨by omega, rfl⟩ ?_
  · refine Imp.trans (Imp.rows_nil _) ?_
    exact Imp.pick (A := vec none 0 0 28 1 []) (by repeat (first | exact .head | apply Take.tail)) (Imp.pick (A := rowsA []) (by repeat (first | exact .head | apply Take.tail)) (Imp.pick (A := vec none 0 0 3 1 []) (by repeat (first | exact .head | apply Take.tail)) (Imp.nil _)))
  · rintro i ⟨R, rc, rs⟩ O oc U ⟨hi, hse⟩
    dsimp only at hse ⊢
    by_cases hlt : i < ra.length
    · obtain ⟨hb1, hb2, hb3⟩ := hok i (by omega)
      have hbas := (hinv i (by omega)).bas
      have hrl := hrow i hlt
      have hsr := ha.row hlt
      rw [hrl] at hsr
      have hsl : rs.length = (indS m i).1.length := by rw [← hse, els_len]
      have hBk : Bas (nth ra i).l.length (els rs) (indS m i).2.1 := by rw [hrl, hse]; exact hbas
      obtain ⟨ld, hld⟩ : ∃ ld, ld = (indS m i).2.1 := ⟨_, rfl⟩
      rw [← hld] at hBk
      have hstep : indS m (i + 1) = match addB (els rs) ld (nth ra i).l with | none => indS m i | some p => (p.1, p.2, (indS m i).2.2 ++ [i]) := by rw [indS, hse, hld, hmi i hlt]; rfl
      obtain ⟨r, hr⟩ : ∃ r, r = redP (nth ra i).l (els rs) ld rs.length := ⟨_, rfl⟩
      have hadd : addB (els rs) ld (nth ra i).l = match leadO r with | none => none | some k => some (clr (els rs) (qrow r k) k ++ [qrow r k], ld ++ [k]) := by unfold addB; rw [els_len, ← hr]; rfl
      have hrn : r.length = n := by rw [hr, redP_len hBk.toBok rfl _ (by rw [els_len]; exact Nat.le_refl _), hrl]
      have hred : ∀ (vb : Value) (w' : World), Below w.heap.size w w' → MatAt w' vb rs → Calls Try.prog 38 #[(nth ra i).v, vb] w' fun e w2 => ∃ v' M, e = .returned v' ∧ H w' M w2 ∧ ∃ A c, v' = .slice A n c ∧ M = [vec A n c 5 1 (bvs r)] := fun vb w' hb hmat => by
        have := reduced_n (nth ra i).v vb (nth ra i).l rs ld w' ((ha.row hlt).below hb) hmat hBk (by omega) (by omega)
        rwa [hrl, ← hr] at this
      have hlead : ∀ (v : Value) (w' : World), Sl w' 1 v n (bvs r) → Calls Try.prog 39 #[v] w' fun e w2 => e = .returned (iv (fz (leadO r))) ∧ Below w'.heap.size w' w2 := fun v w' h => lead_e v r w' (by rw [hrn]; exact h)
      cases hk : leadO r with
      | none =>
        rw [hk] at hadd hlead
        rw [show fz none = -1 from rfl] at hlead
        replace hadd : addB (els rs) ld (nth ra i).l = none := hadd
        rw [hadd] at hstep
        replace hstep : indS m (i + 1) = indS m i := hstep
        (refine WC.seq ?_; intro K hK)
        (refine WC.seq ?_; intro K hK)
        refine WC.region rfl ?_
        refine WL.want rfl (WL1.give rfl (g_move rfl (.mk (v := .int _ _) rfl rfl)) ?_)
        refine WL.want rfl (WL1.give rfl (g_move rfl (.mk (v := .slice _ _ _) rfl rfl)) ?_)
        refine WL.want rfl (WL1.give rfl (g_len rfl (.mk rfl rfl) rfl) ?_)
        refine WL.want rfl (WL1.give rfl (g_lt rfl (.mk rfl rfl) (.mk rfl rfl) (decide_eq_true (by omega))) ?_)
        refine WL.nil ?_
        (refine hK _ _ ?_; clear hK)
        refine WC.cond_true (.mk rfl rfl) ?_
        refine WC.skip ?_
        (refine hK _ _ ?_; clear hK)
        (refine WC.seq ?_; intro K hK)
        refine WC.block ?_
        (refine WC.seq ?_; intro K hK)
        refine WC.region rfl ?_
        refine WL.want rfl (WL1.give rfl (g_move rfl (.mk (v := .slice _ _ _) rfl rfl)) ?_)
        refine WL.want rfl (WL1.give rfl (g_move rfl (.mk (v := .int _ _) rfl rfl)) ?_)
        refine WL.want rfl (WL1.give rfl (g_indexAddr (sz := 1) rfl (.mk rfl rfl) (.mk rfl rfl) rfl rfl rfl (by omega) (fun _ _ => sl_some hs (by omega))) ?_)
        refine WL.want rfl (WL1.give rfl (g_load rfl (.mk rfl rfl) rfl (rd_sl hs (get1 (by omega)))) ?_)
        refine WL.want rfl (WL1.give rfl (g_move rfl (.mk (v := .slice _ _ _) rfl rfl)) ?_)
        (refine WL.want rfl (WL1.callN rfl rfl rfl (.cons (.mk (v := .slice _ _ _) rfl rfl) (.cons (.mk (v := .slice _ _ _) rfl rfl) .nil)) (fun w hw => hred _ w hw.1 (MatAt.of_rowsA hw (by repeat (first | exact .head _ | apply List.Mem.tail)) (by repeat (first | exact .head _ | apply List.Mem.tail)))) ?_); rintro _ _ ⟨Ar, cr, rfl, rfl⟩)
        refine WL.want rfl (WL1.give rfl (g_assign rfl (.mk (v := .slice _ _ _) rfl rfl)) ?_)
        refine WL.nil ?_
        (refine hK _ _ ?_; clear hK)
        (refine WC.seq ?_; intro K hK)
        refine WC.region rfl ?_
        refine WL.want rfl (WL1.give rfl (g_move rfl (.mk (v := .slice _ _ _) rfl rfl)) ?_)
        refine WL.want rfl (WL1.callP rfl rfl rfl (.cons (.mk (v := .slice _ _ _) rfl rfl) .nil) (fun w hw => hlead _ w (Sl.of_vec hw (by repeat (first | exact .head _ | apply List.Mem.tail)))) ?_)
        refine WL.want rfl (WL1.give rfl (g_assign rfl (.mk (v := .int _ _) rfl rfl)) ?_)
        refine WL.nil ?_
        (refine hK _ _ ?_; clear hK)
        (refine WC.seq ?_; intro K hK)
        (refine WC.seq ?_; intro K hK)
        refine WC.region rfl ?_
        refine WL.want rfl (WL1.give rfl (g_move rfl (.mk (v := .int _ _) rfl rfl)) ?_)
        refine WL.want rfl (WL1.give rfl (g_lt rfl (.mk rfl rfl) (.mk rfl rfl) (decide_eq_true (by omega))) ?_)
        refine WL.nil ?_
        (refine hK _ _ ?_; clear hK)
        refine WC.cond_true (.mk rfl rfl) ?_
        refine WC.exit ?_
        (clear hK; refine hK _ _ ?_; clear hK)
        refine WC.region rfl ?_
        refine WL.want rfl (WL1.give rfl (g_move rfl (.mk (v := .int _ _) rfl rfl)) ?_)
        refine WL.want rfl (WL1.give rfl (g_add rfl (.mk rfl rfl) (.mk rfl rfl) (IntWalk.i64_in _ (by omega))) ?_)
        refine WL.want rfl (WL1.give rfl (g_assign rfl (.mk (v := .int _ _) rfl rfl)) ?_)
        refine WL.nil ?_
        exact ⟨i + 1, ⟨R, rc, rs⟩, O, oc, (by repeat (first | with_reducible exact Out.refl _ _ | refine Out.set rfl ?_ | refine Out.put rfl ?_ | refine Out.sets rfl ?_ | refine Out.hav rfl ?_ | exact Out.refl _ _)), by rw [hstep]; exact ⟨rfl, rfl, rfl, trivial⟩, by rw [hstep]; exact Imp.sub (by repeat (first | exact List.nil_sublist _ | exact List.Sublist.refl _ | apply List.Sublist.cons_cons | apply List.Sublist.cons)), ⟨by omega, by rw [hstep]; exact hse⟩, by omega⟩
      | some k =>
        rw [hk] at hadd hlead
        rw [show fz (some k) = (k : Int) from rfl] at hlead
        obtain ⟨hk1, hk2, _⟩ := leadO_some hk
        rw [hrn] at hk1
        obtain ⟨q, hq⟩ : ∃ q, q = qrow r k := ⟨_, rfl⟩
        replace hadd : addB (els rs) ld (nth ra i).l = some (clr (els rs) (qrow r k) k ++ [qrow r k], ld ++ [k]) := hadd
        rw [← hq] at hadd
        rw [hadd] at hstep
        replace hstep : indS m (i + 1) = (clr (els rs) q k ++ [q], ld ++ [k], (indS m i).2.2 ++ [i]) := hstep
        have hqf : q = gfused (zrow n) r (ginv (nth r k)) := by rw [hq, qrow, hrn]
        have hql : q.length = n := by rw [hq, qrow_len, hrn]
        (refine WC.seq ?_; intro K hK)
        (refine WC.seq ?_; intro K hK)
        refine WC.region rfl ?_
        refine WL.want rfl (WL1.give rfl (g_move rfl (.mk (v := .int _ _) rfl rfl)) ?_)
        refine WL.want rfl (WL1.give rfl (g_move rfl (.mk (v := .slice _ _ _) rfl rfl)) ?_)
        refine WL.want rfl (WL1.give rfl (g_len rfl (.mk rfl rfl) rfl) ?_)
        refine WL.want rfl (WL1.give rfl (g_lt rfl (.mk rfl rfl) (.mk rfl rfl) (decide_eq_true (by omega))) ?_)
        refine WL.nil ?_
        (refine hK _ _ ?_; clear hK)
        refine WC.cond_true (.mk rfl rfl) ?_
        refine WC.skip ?_
        (refine hK _ _ ?_; clear hK)
        (refine WC.seq ?_; intro K hK)
        refine WC.block ?_
        (refine WC.seq ?_; intro K hK)
        refine WC.region rfl ?_
        refine WL.want rfl (WL1.give rfl (g_move rfl (.mk (v := .slice _ _ _) rfl rfl)) ?_)
        refine WL.want rfl (WL1.give rfl (g_move rfl (.mk (v := .int _ _) rfl rfl)) ?_)
        refine WL.want rfl (WL1.give rfl (g_indexAddr (sz := 1) rfl (.mk rfl rfl) (.mk rfl rfl) rfl rfl rfl (by omega) (fun _ _ => sl_some hs (by omega))) ?_)
        refine WL.want rfl (WL1.give rfl (g_load rfl (.mk rfl rfl) rfl (rd_sl hs (get1 (by omega)))) ?_)
        refine WL.want rfl (WL1.give rfl (g_move rfl (.mk (v := .slice _ _ _) rfl rfl)) ?_)
        (refine WL.want rfl (WL1.callN rfl rfl rfl (.cons (.mk (v := .slice _ _ _) rfl rfl) (.cons (.mk (v := .slice _ _ _) rfl rfl) .nil)) (fun w hw => hred _ w hw.1 (MatAt.of_rowsA hw (by repeat (first | exact .head _ | apply List.Mem.tail)) (by repeat (first | exact .head _ | apply List.Mem.tail)))) ?_); rintro _ _ ⟨Ar, cr, rfl, rfl⟩)
        refine WL.want rfl (WL1.give rfl (g_assign rfl (.mk (v := .slice _ _ _) rfl rfl)) ?_)
        refine WL.nil ?_
        (refine hK _ _ ?_; clear hK)
        (refine WC.seq ?_; intro K hK)
        refine WC.region rfl ?_
        refine WL.want rfl (WL1.give rfl (g_move rfl (.mk (v := .slice _ _ _) rfl rfl)) ?_)
        refine WL.want rfl (WL1.callP rfl rfl rfl (.cons (.mk (v := .slice _ _ _) rfl rfl) .nil) (fun w hw => hlead _ w (Sl.of_vec hw (by repeat (first | exact .head _ | apply List.Mem.tail)))) ?_)
        refine WL.want rfl (WL1.give rfl (g_assign rfl (.mk (v := .int _ _) rfl rfl)) ?_)
        refine WL.nil ?_
        (refine hK _ _ ?_; clear hK)
        (refine WC.seq ?_; intro K hK)
        (refine WC.seq ?_; intro K hK)
        refine WC.region rfl ?_
        refine WL.want rfl (WL1.give rfl (g_move rfl (.mk (v := .int _ _) rfl rfl)) ?_)
        refine WL.want rfl (WL1.give rfl (g_lt rfl (.mk rfl rfl) (.mk rfl rfl) (decide_eq_false (by omega))) ?_)
        refine WL.nil ?_
        (refine hK _ _ ?_; clear hK)
        refine WC.cond_false (.mk rfl rfl) ?_
        refine WC.skip ?_
        (refine hK _ _ ?_; clear hK)
        (refine WC.seq ?_; intro K hK)
        refine WC.region rfl ?_
        refine WL.want rfl (WL1.give rfl (g_move rfl (.mk (v := .slice _ _ _) rfl rfl)) ?_)
        refine WL.want rfl (WL1.give rfl (g_move rfl (.mk (v := .int _ _) rfl rfl)) ?_)
        refine WL.want rfl (WL1.give rfl (g_indexAddr (sz := 1) rfl (.mk rfl rfl) (.mk rfl rfl) rfl rfl rfl (by omega) (fun w hw => vec_some hw (.head _) (by omega))) ?_)
        refine WL.want rfl (WL1.give rfl (g_load rfl (.mk rfl rfl) rfl (rd_vec (.head _) (get1 (by omega)))) ?_)
        refine WL.want rfl (WL1.callP rfl rfl rfl (.cons (.mk (v := .int _ _) rfl rfl) .nil) (fun w hw => Calls.belowS (rinv_c (nth r k) hk2 w)) ?_)
        refine WL.want rfl (WL1.give rfl (g_move rfl (.mk (v := .tuple _) rfl rfl)) ?_)
        refine WL.want rfl (WL1.give rfl (g_extract rfl (.mk rfl rfl) rfl) ?_)
        refine WL.want rfl (WL1.give rfl (g_extract rfl (.mk rfl rfl) rfl) ?_)
        refine WL.want rfl (WL1.give rfl (g_assign rfl (.mk (v := .int _ _) rfl rfl)) ?_)
        refine WL.want rfl (WL1.give rfl (g_assign rfl (.mk (v := .bool _) rfl rfl)) ?_)
        refine WL.nil ?_
        (refine hK _ _ ?_; clear hK)
        (refine WC.seq ?_; intro K hK)
        refine WC.region rfl ?_
        refine WL.want rfl (WL1.give rfl (g_move rfl (.mk (v := .slice _ _ _) rfl rfl)) ?_)
        refine WL.want rfl (WL1.give rfl (g_len rfl (.mk rfl rfl) rfl) ?_)
        refine WL.want rfl (WL1.make elB rfl rfl (.mk rfl rfl) (.mk rfl rfl) rfl rfl (by omega) (by unfold maxLen; omega) (fun b37 => ?_))
        refine WL.want rfl (WL1.give rfl (g_move rfl (.mk (v := .slice _ _ _) rfl rfl)) ?_)
        refine WL.want rfl (WL1.give rfl (g_move rfl (.mk (v := .int _ _) rfl rfl)) ?_)
        (refine WL.want rfl (WL1.callN rfl rfl rfl (.cons (.mk (v := .slice _ _ _) rfl rfl) (.cons (.mk (v := .slice _ _ _) rfl rfl) (.cons (.mk (v := .int _ _) rfl rfl) .nil))) (fun w hw => rfused_m (dst := zrow n) (src := r) (c := ginv (nth r k)) (f := q) (m := n) w hqf (zrow_len _) hrn (by omega) (Sl.of_vecE hw (.head _) rfl (madeU _)) (Sl.of_vec hw (.tail _ (.head _)))) ?_); rintro _ _ ⟨Aq, cq, rfl, rfl⟩)
        refine WL.want rfl (WL1.give rfl (g_assign rfl (.mk (v := .slice _ _ _) rfl rfl)) ?_)
        refine WL.nil ?_
        (refine hK _ _ ?_; clear hK)
        (refine WC.seq ?_; intro K hK)
        (refine WC.seq ?_; intro K hK)
        refine WC.region rfl ?_
        refine WL.want rfl (WL1.give rfl (g_assign rfl (.mk (v := .int _ _) rfl rfl)) ?_)
        refine WL.nil ?_
        (refine hK _ _ ?_; clear hK)
        refine WC.block ?_
        refine WC.loopI2 (9223369837831521280) (fun (j : Nat) (r2 : List Row) => [(10, iv j)]) (fun j r2 => [vec Aq n cq 5 1 (bvs q), vec R rs.length rc 28 1 (r2.map Row.v), rowsA r2, vec O (indS m i).2.2.length oc 3 1 (ldv (indS m i).2.2)]) (fun j r2 => j ≤ rs.length ∧ r2.length = rs.length ∧ els r2 = clrP (els rs) q k j) (fun j _ => rs.length - j) 0 rs ⟨rfl, trivial⟩ (Imp.sub (by repeat (first | exact List.nil_sublist _ | exact List.Sublist.refl _ | apply List.Sublist.cons_cons | apply List.Sublist.cons))) ⟨by omega, rfl, by rw [clrP_zero]⟩ ?_
        rintro j r2 U2 ⟨hj, hr2l, hr2e⟩
        by_cases hlt2 : j < rs.length
        · have hBr := hBk.row j (by rw [els_len]; omega)
          have hri : (nth r2 j).l = nth (els rs) j := by rw [els_row hr2e (by omega), clrP_row (by rw [els_len]; omega), if_neg (by omega)]
          have hril : (nth r2 j).l.length = n := by rw [hri, hBr, hrl]
          obtain ⟨f, hf⟩ : ∃ f, f = gfused (nth r2 j).l q (nth (nth r2 j).l k) := ⟨_, rfl⟩
          have hfl : f.length = n := by rw [hf, gfused_length _ _ _ (by omega), hril]
          have hml2 : (r2.map Row.v).length = rs.length := by rw [List.length_map, hr2l]
          (refine WC.seq ?_; intro K hK)
          (refine WC.seq ?_; intro K hK)
          refine WC.region rfl ?_
          refine WL.want rfl (WL1.give rfl (g_move rfl (.mk (v := .int _ _) rfl rfl)) ?_)
          refine WL.want rfl (WL1.give rfl (g_move rfl (.mk (v := .slice _ _ _) rfl rfl)) ?_)
          refine WL.want rfl (WL1.give rfl (g_len rfl (.mk rfl rfl) rfl) ?_)
          refine WL.want rfl (WL1.give rfl (g_lt rfl (.mk rfl rfl) (.mk rfl rfl) (decide_eq_true (by omega))) ?_)
          refine WL.nil ?_
          (refine hK _ _ ?_; clear hK)
          refine WC.cond_true (.mk rfl rfl) ?_
          refine WC.skip ?_
          (refine hK _ _ ?_; clear hK)
          (refine WC.seq ?_; intro K hK)
          refine WC.block ?_
          refine WC.untilL [16] rfl (by kernel_rfl) ?_
          refine WB.takeP 0 rfl (by decide +kernel) (by decide +kernel) (by decide +kernel) (by decide +kernel) rfl rfl (.inr (Imp.sub (by first | ((repeat (first | exact List.nil_sublist _ | exact List.Sublist.refl _ | apply List.Sublist.cons_cons | apply List.Sublist.cons)); done) | fail))) (g_move rfl (.mk (v := .slice _ _ _) rfl rfl)) ?_
          refine WB.takeP 1 rfl (by decide +kernel) (by decide +kernel) (by decide +kernel) (by decide +kernel) rfl rfl (.inr (Imp.sub (by first | ((repeat (first | exact List.nil_sublist _ | exact List.Sublist.refl _ | apply List.Sublist.cons_cons | apply List.Sublist.cons)); done) | fail))) (g_move rfl (.mk (v := .int _ _) rfl rfl)) ?_
          refine WB.takeP 2 rfl (by decide +kernel) (by decide +kernel) (by decide +kernel) (by decide +kernel) rfl rfl (.inr (Imp.sub (by first | ((repeat (first | exact List.nil_sublist _ | exact List.Sublist.refl _ | apply List.Sublist.cons_cons | apply List.Sublist.cons)); done) | fail))) (g_move rfl (.mk (v := .slice _ _ _) rfl rfl)) ?_
          refine WB.takeP 3 rfl (by decide +kernel) (by decide +kernel) (by decide +kernel) (by decide +kernel) rfl rfl (.inr (Imp.sub (by first | ((repeat (first | exact List.nil_sublist _ | exact List.Sublist.refl _ | apply List.Sublist.cons_cons | apply List.Sublist.cons)); done) | fail))) (g_move rfl (.mk (v := .int _ _) rfl rfl)) ?_
          refine WB.take 4 rfl (by decide +kernel) (by decide +kernel) (by decide +kernel) (by decide +kernel) rfl rfl (Imp.sub (by first | ((repeat (first | exact List.nil_sublist _ | exact List.Sublist.refl _ | apply List.Sublist.cons_cons | apply List.Sublist.cons)); done) | fail)) (g_indexAddr (sz := 1) rfl (.mk rfl rfl) (.mk rfl rfl) rfl rfl rfl (by omega) (fun w hw => vec_some hw (.tail _ (.head _)) (by omega))) ?_
          refine WB.take 5 rfl (by decide +kernel) (by decide +kernel) (by decide +kernel) (by decide +kernel) rfl rfl (Imp.sub (by first | ((repeat (first | exact List.nil_sublist _ | exact List.Sublist.refl _ | apply List.Sublist.cons_cons | apply List.Sublist.cons)); done) | fail)) (g_load rfl (.mk rfl rfl) rfl (rd_vec (.tail _ (.head _)) (get1 (by omega)))) ?_
          refine WB.takeP 6 rfl (by decide +kernel) (by decide +kernel) (by decide +kernel) (by decide +kernel) rfl rfl (.inr (Imp.sub (by first | ((repeat (first | exact List.nil_sublist _ | exact List.Sublist.refl _ | apply List.Sublist.cons_cons | apply List.Sublist.cons)); done) | fail))) (g_move rfl (.mk (v := .slice _ _ _) rfl rfl)) ?_
          refine WB.takeP 7 rfl (by decide +kernel) (by decide +kernel) (by decide +kernel) (by decide +kernel) rfl rfl (.inr (Imp.sub (by first | ((repeat (first | exact List.nil_sublist _ | exact List.Sublist.refl _ | apply List.Sublist.cons_cons | apply List.Sublist.cons)); done) | fail))) (g_move rfl (.mk (v := .slice _ _ _) rfl rfl)) ?_
          refine WB.takeP 8 rfl (by decide +kernel) (by decide +kernel) (by decide +kernel) (by decide +kernel) rfl rfl (.inr (Imp.sub (by first | ((repeat (first | exact List.nil_sublist _ | exact List.Sublist.refl _ | apply List.Sublist.cons_cons | apply List.Sublist.cons)); done) | fail))) (g_move rfl (.mk (v := .int _ _) rfl rfl)) ?_
          refine WB.take 9 rfl (by decide +kernel) (by decide +kernel) (by decide +kernel) (by decide +kernel) rfl rfl (Imp.sub (by first | ((repeat (first | exact List.nil_sublist _ | exact List.Sublist.refl _ | apply List.Sublist.cons_cons | apply List.Sublist.cons)); done) | fail)) (g_indexAddr (sz := 1) rfl (.mk rfl rfl) (.mk rfl rfl) rfl rfl rfl (by omega) (fun w hw => vec_some hw (.tail _ (.head _)) (by omega))) ?_
          refine WB.take 10 rfl (by decide +kernel) (by decide +kernel) (by decide +kernel) (by decide +kernel) rfl rfl (Imp.sub (by first | ((repeat (first | exact List.nil_sublist _ | exact List.Sublist.refl _ | apply List.Sublist.cons_cons | apply List.Sublist.cons)); done) | fail)) (g_load rfl (.mk rfl rfl) rfl (rd_vec (.tail _ (.head _)) (get1 (by omega)))) ?_
          refine WB.takeP 11 rfl (by decide +kernel) (by decide +kernel) (by decide +kernel) (by decide +kernel) rfl rfl (.inr (Imp.sub (by first | ((repeat (first | exact List.nil_sublist _ | exact List.Sublist.refl _ | apply List.Sublist.cons_cons | apply List.Sublist.cons)); done) | fail))) (g_move rfl (.mk (v := .int _ _) rfl rfl)) ?_
          refine WB.take 12 rfl (by decide +kernel) (by decide +kernel) (by decide +kernel) (by decide +kernel) rfl rfl (Imp.sub (by first | ((repeat (first | exact List.nil_sublist _ | exact List.Sublist.refl _ | apply List.Sublist.cons_cons | apply List.Sublist.cons)); done) | fail)) (g_indexAddr (sz := 1) rfl (.mk rfl rfl) (.mk rfl rfl) rfl rfl rfl (by omega) (rowA_some (.tail _ (.tail _ (.head _))) (by omega) (by omega))) ?_
          refine WB.take 13 rfl (by decide +kernel) (by decide +kernel) (by decide +kernel) (by decide +kernel) rfl rfl (Imp.sub (by first | ((repeat (first | exact List.nil_sublist _ | exact List.Sublist.refl _ | apply List.Sublist.cons_cons | apply List.Sublist.cons)); done) | fail)) (g_load rfl (.mk rfl rfl) rfl (rd_rowA (.tail _ (.tail _ (.head _))) (by omega) (by omega))) ?_
          refine WB.one 14 (by decide +kernel) rfl rfl ?_
          (refine WL1.callN rfl rfl rfl (.cons (.mk (v := .slice _ _ _) rfl rfl) (.cons (.mk (v := .slice _ _ _) rfl rfl) (.cons (.mk (v := .int _ _) rfl rfl) .nil))) (fun w hw => rfused_m (dst := (nth r2 j).l) (src := q) (c := nth (nth r2 j).l k) (f := f) (m := n) w hf hril hql (by omega) (by have := Sl.of_rowA (k := j) hw (.tail _ (.tail _ (.head _))) (by omega); rwa [hril] at this) (Sl.of_vec hw (.head _))) ?_; rintro _ _ ⟨Af, cf, rfl, rfl⟩)
          refine WL.nil ?_
          refine ⟨.inr (Imp.sub (by first | ((repeat (first | exact List.nil_sublist _ | exact List.Sublist.refl _ | apply List.Sublist.cons_cons | apply List.Sublist.cons)); done) | fail)), ?_⟩
          refine WB.take 15 rfl (by decide +kernel) (by decide +kernel) (by decide +kernel) (by decide +kernel) rfl rfl (Imp.sub (by first | ((repeat (first | exact List.nil_sublist _ | exact List.Sublist.refl _ | apply List.Sublist.cons_cons | apply List.Sublist.cons)); done) | fail)) (g_indexAddr (sz := 1) rfl (.mk rfl rfl) (.mk rfl rfl) rfl rfl rfl (by omega) (fun w hw => vec_some hw (.tail _ (.head _)) (by omega))) ?_
          refine WB.one 16 (by decide +kernel) rfl rfl ?_
          refine WL1.storeV1 rfl rfl (.mk rfl rfl) (.mk (v := .slice _ _ _) rfl rfl) rfl rfl (by first | omega | (simp; done) | (simp; omega)) (.tail (.tail (.head))) ?_
          refine WL.nil ?_
          refine ⟨.inl (by decide +kernel), ?_⟩
          refine WB.done (by decide +kernel) ?_
          (refine hK _ _ ?_; clear hK)
          refine WC.region rfl ?_
          refine WL.want rfl (WL1.give rfl (g_move rfl (.mk (v := .int _ _) rfl rfl)) ?_)
          refine WL.want rfl (WL1.give rfl (g_add rfl (.mk rfl rfl) (.mk rfl rfl) (IntWalk.i64_in _ (by omega))) ?_)
          refine WL.want rfl (WL1.give rfl (g_assign rfl (.mk (v := .int _ _) rfl rfl)) ?_)
          refine WL.nil ?_
          refine ⟨j + 1, r2.set j ⟨Af, cf, f⟩, (by repeat (first | with_reducible exact Out.refl _ _ | refine Out.set rfl ?_ | refine Out.put rfl ?_ | refine Out.sets rfl ?_ | refine Out.hav rfl ?_ | exact Out.refl _ _)), ⟨rfl, trivial⟩, ?_, ⟨by omega, by rw [List.length_set, hr2l], by rw [els_set, hr2e, hf, hri]; exact clrP_set (by rw [els_len]; omega)⟩, by omega⟩
          rw [rowsv_set, Nat.mul_one j, v_of hfl, own_of hfl]
          exact Imp.put2 (by repeat (first | exact .head | apply Take.tail)) (by repeat (first | exact .head | apply Swap.tail)) (by omega)
        · obtain rfl : j = rs.length := by omega
          have hl1 : ((indS m i).2.2 ++ [i]).length = (indS m i).2.2.length + 1 := by rw [List.length_append]; rfl
          have hl2 : ldv ((indS m i).2.2 ++ [i]) = ldv (indS m i).2.2 ++ [iv i] := by unfold ldv; rw [List.map_append]; rfl
          (refine WC.seq ?_; intro K hK)
          (refine WC.seq ?_; intro K hK)
          refine WC.region rfl ?_
          refine WL.want rfl (WL1.give rfl (g_move rfl (.mk (v := .int _ _) rfl rfl)) ?_)
          refine WL.want rfl (WL1.give rfl (g_move rfl (.mk (v := .slice _ _ _) rfl rfl)) ?_)
          refine WL.want rfl (WL1.give rfl (g_len rfl (.mk rfl rfl) rfl) ?_)
          refine WL.want rfl (WL1.give rfl (g_lt rfl (.mk rfl rfl) (.mk rfl rfl) (decide_eq_false (by omega))) ?_)
          refine WL.nil ?_
          (refine hK _ _ ?_; clear hK)
          refine WC.cond_false (.mk rfl rfl) ?_
          refine WC.exit ?_
          (clear hK; refine hK _ _ ?_; clear hK)
          (refine WC.seq ?_; intro K hK)
          refine WC.region rfl ?_
          refine WL.want rfl (WL1.give rfl (g_move rfl (.mk (v := .slice _ _ _) rfl rfl)) ?_)
          refine WL.want rfl (WL1.give rfl (g_move rfl (.mk (v := .slice _ _ _) rfl rfl)) ?_)
          refine WL.want rfl (WL1.lit (cs := [_]) elR rfl rfl rfl (.cons (.mk (v := .slice _ _ _) rfl rfl) .nil) rfl (by first | (simp [Value.cells]; done) | fail) rfl rfl (fun b65 => ?_))
          refine WL.want rfl (WL1.append elR rfl rfl (.mk rfl rfl) (.mk rfl rfl) (.tail (.tail (.head))) (fun w hw => Sl.of_vec hw (.head _)) (all1 rfl) (by unfold maxLen; omega) (by omega) (fun A66 c66 => ?_))
          refine WL.want rfl (WL1.give rfl (g_assign rfl (.mk (v := .slice _ _ _) rfl rfl)) ?_)
          refine WL.nil ?_
          (refine hK _ _ ?_; clear hK)
          refine WC.region rfl ?_
          refine WL.want rfl (WL1.give rfl (g_move rfl (.mk (v := .slice _ _ _) rfl rfl)) ?_)
          refine WL.want rfl (WL1.give rfl (g_move rfl (.mk (v := .int _ _) rfl rfl)) ?_)
          refine WL.want rfl (WL1.lit (cs := [_]) elI rfl rfl rfl (.cons (.mk (v := .int _ _) rfl rfl) .nil) rfl (by first | (simp [Value.cells]; done) | fail) rfl rfl (fun b69 => ?_))
          refine WL.want rfl (WL1.append elI rfl rfl (.mk rfl rfl) (.mk rfl rfl) (.tail (.tail (.tail (.tail (.tail (.head)))))) (fun w hw => Sl.of_vec hw (.head _)) (all1 rfl) (by unfold maxLen; omega) (by omega) (fun A70 c70 => ?_))
          refine WL.want rfl (WL1.give rfl (g_assign rfl (.mk (v := .slice _ _ _) rfl rfl)) ?_)
          refine WL.nil ?_
          (refine hK _ _ ?_; clear hK)
          refine WC.region rfl ?_
          refine WL.want rfl (WL1.give rfl (g_move rfl (.mk (v := .int _ _) rfl rfl)) ?_)
          refine WL.want rfl (WL1.give rfl (g_add rfl (.mk rfl rfl) (.mk rfl rfl) (IntWalk.i64_in _ (by omega))) ?_)
          refine WL.want rfl (WL1.give rfl (g_assign rfl (.mk (v := .int _ _) rfl rfl)) ?_)
          refine WL.nil ?_
          refine ⟨i + 1, ⟨A66, c66, r2 ++ [⟨Aq, cq, q⟩]⟩, A70, c70, (by repeat (first | with_reducible exact Out.refl _ _ | refine Out.set rfl ?_ | refine Out.put rfl ?_ | refine Out.sets rfl ?_ | refine Out.hav rfl ?_ | exact Out.refl _ _)), ?_, ?_, ⟨by omega, ?_⟩, by omega⟩
          · rw [hstep]
            show Agree _ [(5, iv ((i + 1 : Nat) : Int)), (3, .slice A70 ((indS m i).2.2 ++ [i]).length c70), (4, .slice A66 (r2 ++ [(⟨Aq, cq, q⟩ : Row)]).length c66)]
            rw [hl1, List.length_append, hr2l]
            exact ⟨rfl, rfl, rfl, trivial⟩
          · rw [hstep]
            show Imp _ [vec A66 (r2 ++ [(⟨Aq, cq, q⟩ : Row)]).length c66 28 1 ((r2 ++ [(⟨Aq, cq, q⟩ : Row)]).map Row.v), rowsA (r2 ++ [⟨Aq, cq, q⟩]), vec A70 ((indS m i).2.2 ++ [i]).length c70 3 1 (ldv ((indS m i).2.2 ++ [i]))]
            have hmv : (r2 ++ [(⟨Aq, cq, q⟩ : Row)]).map Row.v = r2.map Row.v ++ [Value.slice Aq n cq] := by rw [List.map_append, v_of hql]; rfl
            have hlen : (r2 ++ [(⟨Aq, cq, q⟩ : Row)]).length = rs.length + 1 := by rw [List.length_append, hr2l]; rfl
            rw [hl1, hl2, hmv, hlen, own_of hql]
            refine Imp.trans (Imp.add2 (rs := r2) (r := ⟨Aq, cq, q⟩) (by repeat (first | exact .head | apply Take.tail)) (by repeat (first | exact .head | apply Swap.tail))) ?_
            exact Imp.pick (by repeat (first | exact .head | apply Take.tail)) (Imp.pick (by repeat (first | exact .head | apply Take.tail)) (Imp.pick (by repeat (first | exact .head | apply Take.tail)) (Imp.nil _)))
          · rw [hstep]
            show els (r2 ++ [⟨Aq, cq, q⟩]) = clr (els rs) q k ++ [q]
            rw [els_add, hr2e, ← els_len rs, clrP_all]
    · obtain rfl : i = ra.length := by omega
      (refine WC.seq ?_; intro K hK)
      (refine WC.seq ?_; intro K hK)
      refine WC.region rfl ?_
      refine WL.want rfl (WL1.give rfl (g_move rfl (.mk (v := .int _ _) rfl rfl)) ?_)
      refine WL.want rfl (WL1.give rfl (g_move rfl (.mk (v := .slice _ _ _) rfl rfl)) ?_)
      refine WL.want rfl (WL1.give rfl (g_len rfl (.mk rfl rfl) rfl) ?_)
      refine WL.want rfl (WL1.give rfl (g_lt rfl (.mk rfl rfl) (.mk rfl rfl) (decide_eq_false (by omega))) ?_)
      refine WL.nil ?_
      (refine hK _ _ ?_; clear hK)
      refine WC.cond_false (.mk rfl rfl) ?_
      refine WC.exit ?_
      (clear hK; refine hK _ _ ?_; clear hK)
      (refine WC.seq ?_; intro K hK)
      refine WC.region rfl ?_
      refine WL.want rfl (WL1.give rfl (g_move rfl (.mk (v := .slice _ _ _) rfl rfl)) ?_)
      refine WL.want rfl (WL1.give rfl (g_assign rfl (.mk (v := .slice _ _ _) rfl rfl)) ?_)
      refine WL.nil ?_
      (refine hK _ _ ?_; clear hK)
      refine WC.ret ?_
      refine fun w' hw' => ⟨_, _, rfl, (Imp.pick (A := vec O (indS m ra.length).2.2.length oc 3 1 (ldv (indS m ra.length).2.2)) (by repeat (first | exact .head | apply Take.tail)) (Imp.nil _)).h hw', O, oc, ?_, ?_⟩
      · show Value.slice O (indS m ra.length).2.2.length oc = _
        rw [indep, ← hmm, hml]
      · rw [indep, ← hmm, hml]
end Go.Proofs.Ytlkemgefioiffaa
