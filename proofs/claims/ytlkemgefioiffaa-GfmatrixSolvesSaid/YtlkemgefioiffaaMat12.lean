/- The reference's leading elements and reduced rows, walked. No condition. -/
import Derived.Test.YtlkemgefioiffaaAlg
import Derived.Test.YtlkemgefioiffaaGg
import Derived.Test.YtlkemgefioiffaaGj
namespace Go.Proofs.Ytlkemgefioiffaa
open Go.RowKit
attribute [local irreducible] Calls
set_option maxRecDepth 20000 in
set_option maxHeartbeats 1000000 in
theorem lead_e (v : Value) (l : List G) (w : World) (hv : Sl w 1 v l.length (bvs l)) : Calls Try.prog 39 #[v] w fun e w' => e = .returned (iv (fz (leadO l))) ∧ Below w.heap.size w w' := by
  obtain ⟨A, cc, rfl, hcc, hm, hs⟩ := hv.open_
  unfold maxLen at hm
  refine calls_wc (args := [.slice A l.length cc]) [2] [] Try.func39 rfl Try.ntmps39 rfl rfl rfl rfl (H.refl w) ?_
  (refine WC.seq ?_; intro K hK)
  refine WC.region rfl ?_
  refine WL.want rfl (WL1.give rfl (g_assign rfl (.mk (v := .int _ _) rfl rfl)) ?_)
  refine WL.nil ?_
  (refine hK _ _ ?_; clear hK)
  (refine WC.seq ?_; intro K hK)
  (refine WC.seq ?_; intro K hK)
  refine WC.region rfl ?_
  refine WL.want rfl (WL1.give rfl (g_assign rfl (.mk (v := .int _ _) rfl rfl)) ?_)
  refine WL.nil ?_
  (refine hK _ _ ?_; clear hK)
  refine WC.block ?_
  refine WC.loop (65532) (fun k : Nat => [(3, iv k)]) (fun _ => []) (fun k => k ≤ l.length ∧ ∀ j, j < k → nz (nth l j) = false) (fun k => l.length - k) 0 ⟨rfl, trivial⟩ (List.nil_sublist _) ⟨by omega, fun j hj => absurd hj (by omega)⟩ ?_
  rintro k U ⟨hk, hq⟩
  by_cases hlt : k < l.length
  · cases hz : nz (nth l k) with
    | false =>
      have hne := (decG (x := nth l k)).trans hz
      (refine WC.seq ?_; intro K hK)
      (refine WC.seq ?_; intro K hK)
      refine WC.region rfl ?_
      refine WL.want rfl (WL1.give rfl (g_move rfl (.mk (v := .int _ _) rfl rfl)) ?_)
      refine WL.want rfl (WL1.give rfl (g_move rfl (.mk (v := .slice _ _ _) rfl rfl)) ?_)
      refine WL.want rfl (WL1.give rfl (g_len rfl (.mk rfl rfl) rfl) ?_)
      refine WL.want rfl (WL1.give rfl (g_lt rfl (.mk rfl rfl) (.mk rfl rfl) (decide_eq_true (by omega))) ?_)
      refine WL.nil ?_
      (refine hK _ _ ?_; clear hK)
      refine WC.cond_true (.mk rfl rfl) ?_
      refine WC.skip ?_
      (refine hK _ _ ?_; clear hK)
      (refine WC.seq ?_; intro K hK)
      refine WC.block ?_
      (refine WC.seq ?_; intro K hK)
      refine WC.region rfl ?_
      refine WL.want rfl (WL1.give rfl (g_move rfl (.mk (v := .slice _ _ _) rfl rfl)) ?_)
      refine WL.want rfl (WL1.give rfl (g_move rfl (.mk (v := .int _ _) rfl rfl)) ?_)
      refine WL.want rfl (WL1.give rfl (g_indexAddr (sz := 1) rfl (.mk rfl rfl) (.mk rfl rfl) rfl rfl rfl (by omega) (fun _ _ => sl_some hs (by omega))) ?_)
      refine WL.want rfl (WL1.give rfl (g_load rfl (.mk rfl rfl) rfl (rd_sl hs (get1 (by omega)))) ?_)
      refine WL.want rfl (WL1.give rfl (g_ne rfl (.mk rfl rfl) (.mk rfl rfl) hne) ?_)
      refine WL.nil ?_
      (refine hK _ _ ?_; clear hK)
      refine WC.cond_false (.mk rfl rfl) ?_
      refine WC.skip ?_
      (refine hK _ _ ?_; clear hK)
      refine WC.region rfl ?_
      refine WL.want rfl (WL1.give rfl (g_move rfl (.mk (v := .int _ _) rfl rfl)) ?_)
      refine WL.want rfl (WL1.give rfl (g_add rfl (.mk rfl rfl) (.mk rfl rfl) (IntWalk.i64_in _ (by omega))) ?_)
      refine WL.want rfl (WL1.give rfl (g_assign rfl (.mk (v := .int _ _) rfl rfl)) ?_)
      refine WL.nil ?_
      refine ⟨k + 1, (by repeat (first | with_reducible exact Out.refl _ _ | refine Out.set rfl ?_ | refine Out.put rfl ?_ | refine Out.sets rfl ?_ | refine Out.hav rfl ?_ | exact Out.refl _ _)), ⟨rfl, trivial⟩, .refl _, ⟨by omega, fun j hj => ?_⟩, by omega⟩
      by_cases e : j = k
      · rw [e]; exact hz
      · exact hq j (by omega)
    | true =>
      have hne := (decG (x := nth l k)).trans hz
      (refine WC.seq ?_; intro K hK)
      (refine WC.seq ?_; intro K hK)
      refine WC.region rfl ?_
      refine WL.want rfl (WL1.give rfl (g_move rfl (.mk (v := .int _ _) rfl rfl)) ?_)
      refine WL.want rfl (WL1.give rfl (g_move rfl (.mk (v := .slice _ _ _) rfl rfl)) ?_)
      refine WL.want rfl (WL1.give rfl (g_len rfl (.mk rfl rfl) rfl) ?_)
      refine WL.want rfl (WL1.give rfl (g_lt rfl (.mk rfl rfl) (.mk rfl rfl) (decide_eq_true (by omega))) ?_)
      refine WL.nil ?_
      (refine hK _ _ ?_; clear hK)
      refine WC.cond_true (.mk rfl rfl) ?_
      refine WC.skip ?_
      (refine hK _ _ ?_; clear hK)
      (refine WC.seq ?_; intro K hK)
      refine WC.block ?_
      (refine WC.seq ?_; intro K hK)
      refine WC.region rfl ?_
      refine WL.want rfl (WL1.give rfl (g_move rfl (.mk (v := .slice _ _ _) rfl rfl)) ?_)
      refine WL.want rfl (WL1.give rfl (g_move rfl (.mk (v := .int _ _) rfl rfl)) ?_)
      refine WL.want rfl (WL1.give rfl (g_indexAddr (sz := 1) rfl (.mk rfl rfl) (.mk rfl rfl) rfl rfl rfl (by omega) (fun _ _ => sl_some hs (by omega))) ?_)
      refine WL.want rfl (WL1.give rfl (g_load rfl (.mk rfl rfl) rfl (rd_sl hs (get1 (by omega)))) ?_)
      refine WL.want rfl (WL1.give rfl (g_ne rfl (.mk rfl rfl) (.mk rfl rfl) hne) ?_)
      refine WL.nil ?_
      (refine hK _ _ ?_; clear hK)
      refine WC.cond_true (.mk rfl rfl) ?_
      (refine WC.seq ?_; intro K hK)
      refine WC.region rfl ?_
      refine WL.want rfl (WL1.give rfl (g_move rfl (.mk (v := .int _ _) rfl rfl)) ?_)
      refine WL.want rfl (WL1.give rfl (g_assign rfl (.mk (v := .int _ _) rfl rfl)) ?_)
      refine WL.nil ?_
      (refine hK _ _ ?_; clear hK)
      refine WC.ret ?_
      exact fun w' hw' => ⟨by rw [leadO, fnd_eq hlt hz hq]; rfl, hw'.1⟩
  · obtain rfl : k = l.length := by omega
    (refine WC.seq ?_; intro K hK)
    (refine WC.seq ?_; intro K hK)
    refine WC.region rfl ?_
    refine WL.want rfl (WL1.give rfl (g_move rfl (.mk (v := .int _ _) rfl rfl)) ?_)
    refine WL.want rfl (WL1.give rfl (g_move rfl (.mk (v := .slice _ _ _) rfl rfl)) ?_)
    refine WL.want rfl (WL1.give rfl (g_len rfl (.mk rfl rfl) rfl) ?_)
    refine WL.want rfl (WL1.give rfl (g_lt rfl (.mk rfl rfl) (.mk rfl rfl) (decide_eq_false (by omega))) ?_)
    refine WL.nil ?_
    (refine hK _ _ ?_; clear hK)
    refine WC.cond_false (.mk rfl rfl) ?_
    refine WC.exit ?_
    (clear hK; refine hK _ _ ?_; clear hK)
    (refine WC.seq ?_; intro K hK)
    refine WC.region rfl ?_
    refine WL.want rfl (WL1.give rfl (g_assign rfl (.mk (v := .int _ _) rfl rfl)) ?_)
    refine WL.nil ?_
    (refine hK _ _ ?_; clear hK)
    refine WC.ret ?_
    exact fun w' hw' => ⟨by rw [leadO, fnd_all hq]; rfl, hw'.1⟩
theorem rfused_m {v1 v2 : Value} {dst src : List G} {c : G} {f : List G} {m : Nat} (w : World) (hf : f = gfused dst src c) (hd : dst.length = m) (hs : src.length = m) (hm : m ≤ 1000000) (h1 : Sl w 1 v1 m (bvs dst)) (h2 : Sl w 1 v2 m (bvs src)) :
    Calls Try.prog 41 #[v1, v2, bv c] w fun e w2 => ∃ v M, e = .returned v ∧ H w M w2 ∧ ∃ A cc, v = .slice A m cc ∧ M = [vec A m cc 5 1 (bvs f)] := by
  subst hf; subst hd
  exact (rfused_any v1 v2 dst src c w hs.symm hm h1 (by rw [hs]; exact h2)).mono fun e w' ⟨v, he, ho, hb⟩ => by
    obtain ⟨A, cc, rfl, hH⟩ := own_n ho hb
    exact ⟨_, _, he, hH, A, cc, rfl, rfl⟩
theorem rinv_c (a : G) (h : a ≠ 0) (w : World) : Calls Try.prog 40 #[bv a] w fun e w' => e = .returned (.tuple #[bv (ginv a), .bool true]) ∧ w' = w :=
  (rinv_any a w).mono fun _ _ ⟨h1, h2⟩ => ⟨by rw [h1, show gnz a = true from by simp [gnz, h]], h2.symm⟩
set_option maxRecDepth 20000 in
set_option maxHeartbeats 1000000 in
theorem reduced_n (vr vb : Value) (row : List G) (rs : List Row) (ld : List Nat) (w : World) (hr : Sl w 1 vr row.length (bvs row)) (hb : MatAt w vb rs) (hB : Bas row.length (els rs) ld) (hn : row.length ≤ 64) (hl : rs.length ≤ 1000) :
    Calls Try.prog 38 #[vr, vb] w fun e w' => ∃ v' M, e = .returned v' ∧ H w M w' ∧ ∃ A c, v' = .slice A row.length c ∧ M = [vec A row.length c 5 1 (bvs (redP row (els rs) ld rs.length))] := by
  obtain ⟨A, c, rfl, hcc, hm, hs⟩ := hr.open_
  obtain ⟨B, d, rfl, hcd, hmd, hsb⟩ := hb.1.open_
  have hBl : (els rs).length = rs.length := els_len rs
  refine calls_wc (args := [.slice A row.length c, .slice B rs.length d]) [4] [] Try.func38 rfl Try.ntmps38 rfl rfl rfl rfl (H.refl w) ?_
  (refine WC.seq ?_; intro K hK)
  refine WC.region rfl ?_
  refine WL.want rfl (WL1.give rfl (g_assign rfl (.mk (v := .slice _ _ _) rfl rfl)) ?_)
  refine WL.nil ?_
  (refine hK _ _ ?_; clear hK)
  (refine WC.seq ?_; intro K hK)
  refine WC.region rfl ?_
  refine WL.want rfl (WL1.lit (cs := []) elB rfl rfl rfl .nil rfl (by first | (simp [Value.cells]; done) | fail) rfl rfl (fun b7 => ?_))
  refine WL.want rfl (WL1.give rfl (g_move rfl (.mk (v := .slice _ _ _) rfl rfl)) ?_)
  refine WL.want rfl (WL1.append elB rfl rfl (.mk rfl rfl) (.mk rfl rfl) (.head) (fun w hw => Sl.below hs hw.1) (bvs_one _) (by unfold maxLen; omega) (by omega) (fun A9 c9 => ?_))
  refine WL.want rfl (WL1.give rfl (g_assign rfl (.mk (v := .slice _ _ _) rfl rfl)) ?_)
  refine WL.nil ?_
  (refine hK _ _ ?_; clear hK)
  (refine WC.seq ?_; intro K hK)
  (refine WC.seq ?_; intro K hK)
  refine WC.region rfl ?_
  refine WL.want rfl (WL1.give rfl (g_assign rfl (.mk (v := .int _ _) rfl rfl)) ?_)
  refine WL.nil ?_
  (refine hK _ _ ?_; clear hK)
  refine WC.block ?_
  rw [List.nil_append, show (0 + row.length) = row.length from Nat.zero_add _]
  refine WC.loopI3 (1073740896) (fun (i : Nat) (Ar : Option Addr) (cr : Nat) => [(6, iv i), (5, .slice Ar row.length cr)]) (fun i Ar cr => [vec Ar row.length cr 5 1 (bvs (redP row (els rs) ld i))]) (fun i _ _ => i ≤ rs.length) (fun i _ _ => rs.length - i) 0 A9 c9 ⟨rfl, rfl, trivial⟩ (Imp.pick (by repeat (first | exact .head | apply Take.tail)) (Imp.nil _)) (by omega) ?_
  rintro i Ar cr U hi
  have hrl := redP_len hB.toBok rfl i (by omega)
  by_cases hlt : i < rs.length
  · have hrow := hB.row i (by omega)
    have hlti := hB.lt i (by omega)
    have hsr := hb.row hlt
    have hlead := fun w' (hb' : Below w.heap.size w w') => lead_e (nth rs i).v (nth rs i).l w' (hsr.below hb')
    have hlo := leadO_bas hB (i := i) (by omega)
    rw [els_at hlt] at hrow hlo
    rw [hlo, show fz (some (nth ld i)) = ((nth ld i : Nat) : Int) from rfl] at hlead
    obtain ⟨k, hk⟩ : ∃ k, k = nth ld i := ⟨_, rfl⟩
    obtain ⟨r, hr⟩ : ∃ r, r = redP row (els rs) ld i := ⟨_, rfl⟩
    obtain ⟨r', hr'⟩ : ∃ r', r' = redP row (els rs) ld (i + 1) := ⟨_, rfl⟩
    have hstep : r' = gfused r (nth rs i).l (nth r k) := by rw [hr', hr, hk, ← els_at hlt]; rfl
    rw [← hr] at hrl ⊢
    rw [← hk] at hlead hlti
    (refine WC.seq ?_; intro K hK)
    (refine WC.seq ?_; intro K hK)
    refine WC.region rfl ?_
    refine WL.want rfl (WL1.give rfl (g_move rfl (.mk (v := .int _ _) rfl rfl)) ?_)
    refine WL.want rfl (WL1.give rfl (g_move rfl (.mk (v := .slice _ _ _) rfl rfl)) ?_)
    refine WL.want rfl (WL1.give rfl (g_len rfl (.mk rfl rfl) rfl) ?_)
    refine WL.want rfl (WL1.give rfl (g_lt rfl (.mk rfl rfl) (.mk rfl rfl) (decide_eq_true (by omega))) ?_)
    refine WL.nil ?_
    (refine hK _ _ ?_; clear hK)
    refine WC.cond_true (.mk rfl rfl) ?_
    refine WC.skip ?_
    (refine hK _ _ ?_; clear hK)
    (refine WC.seq ?_; intro K hK)
    refine WC.block ?_
    refine WC.held [vec Ar row.length cr 5 1 (bvs r)] rfl (by kernel_rfl) ?_
    refine WH.take 0 rfl (by decide +kernel) (by decide +kernel) (by decide +kernel) rfl rfl (Imp.sub (by first | ((repeat (first | exact List.nil_sublist _ | exact List.Sublist.refl _ | apply List.Sublist.cons_cons | apply List.Sublist.cons)); done) | fail)) (g_move rfl (.mk (v := .slice _ _ _) rfl rfl)) ?_
    refine WH.take 1 rfl (by decide +kernel) (by decide +kernel) (by decide +kernel) rfl rfl (Imp.sub (by first | ((repeat (first | exact List.nil_sublist _ | exact List.Sublist.refl _ | apply List.Sublist.cons_cons | apply List.Sublist.cons)); done) | fail)) (g_move rfl (.mk (v := .slice _ _ _) rfl rfl)) ?_
    refine WH.take 2 rfl (by decide +kernel) (by decide +kernel) (by decide +kernel) rfl rfl (Imp.sub (by first | ((repeat (first | exact List.nil_sublist _ | exact List.Sublist.refl _ | apply List.Sublist.cons_cons | apply List.Sublist.cons)); done) | fail)) (g_move rfl (.mk (v := .int _ _) rfl rfl)) ?_
    refine WH.take 3 rfl (by decide +kernel) (by decide +kernel) (by decide +kernel) rfl rfl (Imp.sub (by first | ((repeat (first | exact List.nil_sublist _ | exact List.Sublist.refl _ | apply List.Sublist.cons_cons | apply List.Sublist.cons)); done) | fail)) (g_indexAddr (sz := 1) rfl (.mk rfl rfl) (.mk rfl rfl) rfl rfl rfl (by omega) (fun _ _ => sl_some hsb (by omega))) ?_
    refine WH.take 4 rfl (by decide +kernel) (by decide +kernel) (by decide +kernel) rfl rfl (Imp.sub (by first | ((repeat (first | exact List.nil_sublist _ | exact List.Sublist.refl _ | apply List.Sublist.cons_cons | apply List.Sublist.cons)); done) | fail)) (g_load rfl (.mk rfl rfl) rfl (rd_sl hsb (get1 (by omega)))) ?_
    refine WH.take 5 rfl (by decide +kernel) (by decide +kernel) (by decide +kernel) rfl rfl (Imp.sub (by first | ((repeat (first | exact List.nil_sublist _ | exact List.Sublist.refl _ | apply List.Sublist.cons_cons | apply List.Sublist.cons)); done) | fail)) (g_move rfl (.mk (v := .slice _ _ _) rfl rfl)) ?_
    refine WH.take 6 rfl (by decide +kernel) (by decide +kernel) (by decide +kernel) rfl rfl (Imp.sub (by first | ((repeat (first | exact List.nil_sublist _ | exact List.Sublist.refl _ | apply List.Sublist.cons_cons | apply List.Sublist.cons)); done) | fail)) (g_move rfl (.mk (v := .slice _ _ _) rfl rfl)) ?_
    refine WH.take 7 rfl (by decide +kernel) (by decide +kernel) (by decide +kernel) rfl rfl (Imp.sub (by first | ((repeat (first | exact List.nil_sublist _ | exact List.Sublist.refl _ | apply List.Sublist.cons_cons | apply List.Sublist.cons)); done) | fail)) (g_move rfl (.mk (v := .int _ _) rfl rfl)) ?_
    refine WH.take 8 rfl (by decide +kernel) (by decide +kernel) (by decide +kernel) rfl rfl (Imp.sub (by first | ((repeat (first | exact List.nil_sublist _ | exact List.Sublist.refl _ | apply List.Sublist.cons_cons | apply List.Sublist.cons)); done) | fail)) (g_indexAddr (sz := 1) rfl (.mk rfl rfl) (.mk rfl rfl) rfl rfl rfl (by omega) (fun _ _ => sl_some hsb (by omega))) ?_
    refine WH.take 9 rfl (by decide +kernel) (by decide +kernel) (by decide +kernel) rfl rfl (Imp.sub (by first | ((repeat (first | exact List.nil_sublist _ | exact List.Sublist.refl _ | apply List.Sublist.cons_cons | apply List.Sublist.cons)); done) | fail)) (g_load rfl (.mk rfl rfl) rfl (rd_sl hsb (get1 (by omega)))) ?_
    refine WH.one 10 (by decide +kernel) rfl rfl ?_
    refine WL1.callP rfl rfl rfl (.cons (.mk (v := .slice _ _ _) rfl rfl) .nil) (fun w hw => hlead w hw.1) ?_
    refine WL.nil ?_
    refine ⟨(Imp.sub (by first | ((repeat (first | exact List.nil_sublist _ | exact List.Sublist.refl _ | apply List.Sublist.cons_cons | apply List.Sublist.cons)); done) | fail)), ?_⟩
    refine WH.take 11 rfl (by decide +kernel) (by decide +kernel) (by decide +kernel) rfl rfl (Imp.sub (by first | ((repeat (first | exact List.nil_sublist _ | exact List.Sublist.refl _ | apply List.Sublist.cons_cons | apply List.Sublist.cons)); done) | fail)) (g_indexAddr (sz := 1) rfl (.mk rfl rfl) (.mk rfl rfl) rfl rfl rfl (by omega) (fun w hw => vec_some hw (.head _) (by omega))) ?_
    refine WH.take 12 rfl (by decide +kernel) (by decide +kernel) (by decide +kernel) rfl rfl (Imp.sub (by first | ((repeat (first | exact List.nil_sublist _ | exact List.Sublist.refl _ | apply List.Sublist.cons_cons | apply List.Sublist.cons)); done) | fail)) (g_load rfl (.mk rfl rfl) rfl (rd_vec (.head _) (get1 (by omega)))) ?_
    refine WH.one 13 (by decide +kernel) rfl rfl ?_
    (refine WL1.callN rfl rfl rfl (.cons (.mk (v := .slice _ _ _) rfl rfl) (.cons (.mk (v := .slice _ _ _) rfl rfl) (.cons (.mk (v := .int _ _) rfl rfl) .nil))) (fun w hw => rfused_m (dst := r) (src := (nth rs i).l) (c := nth r k) (f := r') (m := row.length) w hstep hrl hrow (by omega) (Sl.of_vecE hw (by repeat (first | exact .head _ | apply List.Mem.tail)) rfl rfl) (by have := hsr.below hw.1; rwa [hrow] at this)) ?_; rintro _ _ ⟨Af, cf, rfl, rfl⟩)
    refine WL.nil ?_
    refine ⟨(Imp.sub (by first | ((repeat (first | exact List.nil_sublist _ | exact List.Sublist.refl _ | apply List.Sublist.cons_cons | apply List.Sublist.cons)); done) | fail)), ?_⟩
    refine WH.take 14 rfl (by decide +kernel) (by decide +kernel) (by decide +kernel) rfl rfl (Imp.sub (by first | ((repeat (first | exact List.nil_sublist _ | exact List.Sublist.refl _ | apply List.Sublist.cons_cons | apply List.Sublist.cons)); done) | fail)) (g_assign rfl (.mk (v := .slice _ _ _) rfl rfl)) ?_
    refine WH.done (by decide +kernel) ?_
    (refine hK _ _ ?_; clear hK)
    refine WC.region rfl ?_
    refine WL.want rfl (WL1.give rfl (g_move rfl (.mk (v := .int _ _) rfl rfl)) ?_)
    refine WL.want rfl (WL1.give rfl (g_add rfl (.mk rfl rfl) (.mk rfl rfl) (IntWalk.i64_in _ (by omega))) ?_)
    refine WL.want rfl (WL1.give rfl (g_assign rfl (.mk (v := .int _ _) rfl rfl)) ?_)
    refine WL.nil ?_
    exact ⟨i + 1, Af, cf, (by repeat (first | with_reducible exact Out.refl _ _ | refine Out.set rfl ?_ | refine Out.put rfl ?_ | refine Out.sets rfl ?_ | refine Out.hav rfl ?_ | exact Out.refl _ _)), ⟨rfl, rfl, trivial⟩, by rw [← hr']; exact Imp.cons (Imp.sub (by repeat (first | exact List.nil_sublist _ | exact List.Sublist.refl _ | apply List.Sublist.cons_cons | apply List.Sublist.cons))), by omega, by omega⟩
  · obtain rfl : i = rs.length := by omega
    (refine WC.seq ?_; intro K hK)
    (refine WC.seq ?_; intro K hK)
    refine WC.region rfl ?_
    refine WL.want rfl (WL1.give rfl (g_move rfl (.mk (v := .int _ _) rfl rfl)) ?_)
    refine WL.want rfl (WL1.give rfl (g_move rfl (.mk (v := .slice _ _ _) rfl rfl)) ?_)
    refine WL.want rfl (WL1.give rfl (g_len rfl (.mk rfl rfl) rfl) ?_)
    refine WL.want rfl (WL1.give rfl (g_lt rfl (.mk rfl rfl) (.mk rfl rfl) (decide_eq_false (by omega))) ?_)
    refine WL.nil ?_
    (refine hK _ _ ?_; clear hK)
    refine WC.cond_false (.mk rfl rfl) ?_
    refine WC.exit ?_
    (clear hK; refine hK _ _ ?_; clear hK)
    (refine WC.seq ?_; intro K hK)
    refine WC.region rfl ?_
    refine WL.want rfl (WL1.give rfl (g_move rfl (.mk (v := .slice _ _ _) rfl rfl)) ?_)
    refine WL.want rfl (WL1.give rfl (g_assign rfl (.mk (v := .slice _ _ _) rfl rfl)) ?_)
    refine WL.nil ?_
    (refine hK _ _ ?_; clear hK)
    refine WC.ret ?_
    exact fun w' hw' => ⟨_, _, rfl, hw', Ar, cr, rfl, rfl⟩
end Go.Proofs.Ytlkemgefioiffaa
