/- StepsOne answers true, whatever the weights and the picks: a pick performs exactly one step, of the machine whose identifier it returns. No condition. -/
import Derived.Test.YtbofagfilohhfaaStp11
import Derived.Test.YtbofagfilohhfaaOpen
namespace Go.Proofs.Ytbofagfilohhfaa.LStepsOne
set_option maxRecDepth 20000
open Go.RowKit Go.WideShapes Go.ChangeShapes Go.ChangeAt
attribute [local irreducible] Calls

abbrev wf (x : Int) : Int := 1 + x % 16
abbrev lf (x : Int) : Int := 1 + x
/-- What holds after k picks. -/
structure OS (n k : Nat) (es : List En) (js : List Jb) : Prop where
  ok : Ok es js
  len : es.length ≤ n
  lenj : js.length = n
  bnd : BndK es (2000 * k)
  rng : ∀ q, q < n → -(k : Int) ≤ (nth js q).d ∧ (nth js q).d ≤ k
theorem stpE_len (es : List En) (js : List Jb) (k : Nat) : (stpE es js k).length ≤ es.length := by
  unfold stpE
  split
  · exact List.length_eraseIdx_le _ _
  · exact Nat.le_refl _
theorem nth_stpJ {es : List En} {js : List Jb} {k q : Nat} (hq : q < js.length) : nth (stpJ es js k) q = if q = (nth es k).q then (nth js q).stp else nth js q := by
  unfold stpJ
  rw [nth_eq (by rw [List.length_set]; exact hq), List.getElem_set]
  by_cases e : q = (nth es k).q
  · rw [if_pos e.symm, if_pos e, ← e]
  · rw [if_neg (fun x => e x.symm), if_neg e, nth_eq hq]
theorem OS.stp {n k m : Nat} {es : List En} {js : List Jb} (h : OS n k es js) (hn : n ≤ 64) (hk : k ≤ 100) : OS n (k + 1) (stpE es js m) (stpJ es js m) := by
  refine ⟨h.ok.stp m, Nat.le_trans (stpE_len _ _ _) h.len, by rw [stpJ_len]; exact h.lenj, (h.bnd.stp js m).mono (by omega), fun q hq => ?_⟩
  have := h.rng q hq
  rw [nth_stpJ (by rw [h.lenj]; exact hq)]
  split
  · show -_ ≤ wr ((nth js q).d + 1) ∧ wr ((nth js q).d + 1) ≤ _
    rw [wr_in (by omega)]; omega
  · omega
theorem OS.fair {n k : Nat} {es : List En} {js : List Jb} (h : OS n k es js) (hn : n ≤ 64) (hk : k ≤ 100) (h0 : 1 ≤ es.length) : OS n (k + 1) (fairE es js) (fairJ es js) := by
  have h1 : OS n k (fairW es) js → OS n (k + 1) (fairE es js) (fairJ es js) := fun h => h.stp hn hk
  have hmn : es.length ≤ 64 := Nat.le_trans h.len hn
  refine ⟨h.ok.fair h0, ?_, by rw [fairJ, stpJ_len]; exact h.lenj, (h.bnd.fair js (by omega) (by omega) hmn h0).mono (by omega), fun q hq => ?_⟩
  · refine Nat.le_trans (stpE_len _ _ _) ?_
    rw [fairW_len]; exact h.len
  · have := h.rng q hq
    unfold fairJ
    rw [nth_stpJ (by rw [h.lenj]; exact hq)]
    split
    · show -_ ≤ wr ((nth js q).d + 1) ∧ wr ((nth js q).d + 1) ≤ _
      rw [wr_in (by omega)]; omega
    · omega
/-- What a pick answered and did. -/
structure Did (n k : Nat) (js js' : List Jb) (es' : List En) (id : Int) (dn : Bool) : Prop where
  os : OS n (k + 1) es' js'
  q : 1 ≤ id ∧ id ≤ n
  ptrs : jptrs js' = jptrs js
  at_ : ∀ q, q < n → (nth js' q).b = (nth js q).b ∧ (id = (q : Int) + 1 → (nth js' q).d = (nth js q).d + 1 ∧ dn = decide ((nth js' q).l = 0)) ∧ (id ≠ (q : Int) + 1 → (nth js' q).d = (nth js q).d)
theorem OS.did {n k m : Nat} {es : List En} {js : List Jb} (h : OS n k es js) (hn : n ≤ 64) (hk : k ≤ 100) (hm : m < es.length) : Did n k js (stpJ es js m) (stpE es js m) (nth es m).id (decide ((nth js (nth es m).q).stp.l = 0)) := by
  have ha := h.ok.at hm
  have hl := h.lenj
  refine ⟨h.stp hn hk, ⟨ha.1, by omega⟩, jptrs_stp _ _ _, fun q hq => ?_⟩
  have hr := h.rng q hq
  have e : q = (nth es m).q ↔ (nth es m).id = (q : Int) + 1 := by unfold En.q; omega
  rw [nth_stpJ (by omega)]
  by_cases hq' : q = (nth es m).q
  · rw [if_pos hq', ← hq']
    exact ⟨rfl, fun _ => ⟨by show wr ((nth js q).d + 1) = _; rw [wr_in (by omega)], rfl⟩, fun x => absurd (e.1 hq') x⟩
  · rw [if_neg hq']
    exact ⟨rfl, fun x => absurd (e.2 x) hq', fun _ => rfl⟩
theorem OS.didF {n k : Nat} {es : List En} {js : List Jb} (h : OS n k es js) (hn : n ≤ 64) (hk : k ≤ 100) (h0 : 1 ≤ es.length) : Did n k js (fairJ es js) (fairE es js) (nth es (fairB es)).id (decide ((nth js (nth es (fairB es)).q).stp.l = 0)) := by
  have hb := fairB_lt h0
  have ha := h.ok.at hb
  have hl := h.lenj
  refine ⟨h.fair hn hk h0, ⟨ha.1, by omega⟩, jptrs_stp _ _ _, fun q hq => ?_⟩
  have hr := h.rng q hq
  have e : q = (nth es (fairB es)).q ↔ (nth es (fairB es)).id = (q : Int) + 1 := by unfold En.q; omega
  unfold fairJ
  rw [nth_stpJ (by omega), fairW_q h0 hb]
  by_cases hq' : q = (nth es (fairB es)).q
  · rw [if_pos hq', ← hq']
    exact ⟨rfl, fun _ => ⟨by show wr ((nth js q).d + 1) = _; rw [wr_in (by omega)], rfl⟩, fun x => absurd (e.1 hq') x⟩
  · rw [if_neg hq']
    exact ⟨rfl, fun x => absurd (e.2 x) hq', fun _ => rfl⟩
theorem ds_len (js : List Jb) : (ivs (js.map (·.d))).length = js.length := by simp [ivs]
theorem ds_get {js : List Jb} {k : Nat} (h : k < js.length) : (ivs (js.map (·.d)))[k]? = some (iv (nth js k).d) := by
  rw [ivs, List.map_map, List.getElem?_map, List.getElem?_eq_getElem h, nth_eq h]; rfl
theorem Bld.os {ws ls : Nat → Int} {n : Nat} {es : List En} {js : List Jb} (h : Bld ws ls n es js) (hw : ∀ k, k < n → 1 ≤ ws k ∧ ws k ≤ 16) : OS n 0 es js := by
  refine ⟨h.ok hw, by rw [h.len]; exact Nat.le_refl _, h.lenj, fun k hk => ?_, fun q hq => ?_⟩
  · rw [h.len] at hk
    have a := h.at_ k hk
    have := hw k hk
    omega
  · have a := h.at_ q hq
    omega
set_option maxRecDepth 20000 in
set_option maxHeartbeats 4000000 in
theorem walk (w : World) (v : Value) (bs : List Int) (hv : Sl w 1 v bs.length (bs.map u8v)) (hbr : ∀ x ∈ bs, 0 ≤ x ∧ x ≤ 255) (v1 : Value) (ps : List Int) (hv1 : Sl w 1 v1 ps.length (ps.map u8v)) (hpr : ∀ x ∈ ps, 0 ≤ x ∧ x ≤ 255) :
    Calls Try.prog 6 #[v, v1] w fun en w' => en = .returned (.bool true) ∧ Below w.heap.size w w' := by
  obtain ⟨V, cV, rfl, _, hm, hs⟩ := hv.open_
  obtain ⟨V1, cV1, rfl, _, hm1, hs1⟩ := hv1.open_
  by_cases hn' : 12 < bs.length
  · refine calls_wc (args := [.slice V bs.length cV, .slice V1 ps.length cV1]) [4] [] Try.func6 rfl Try.ntmps6 rfl rfl rfl rfl (H.refl _) ?_
    (refine WC.seq ?_; intro K hK)
    refine WC.region rfl ?_
    refine WL.want rfl (WL1.give rfl (g_assign rfl (.mk (v := .bool _) rfl rfl)) ?_)
    refine WL.nil ?_
    (refine hK _ _ ?_; clear hK)
    (refine WC.seq ?_; intro K hK)
    (refine WC.seq ?_; intro K hK)
    refine WC.region rfl ?_
    refine WL.want rfl (WL1.callP rfl rfl rfl .nil (fun w hw => awake_e) ?_)
    refine WL.want rfl (WL1.give rfl (g_notT rfl (.mk rfl rfl)) ?_)
    refine WL.nil ?_
    (refine hK _ _ ?_; clear hK)
    refine WC.cond_false (.mk rfl rfl) ?_
    refine WC.skip ?_
    (refine hK _ _ ?_; clear hK)
    (refine WC.seq ?_; intro K hK)
    (refine WC.seq ?_; intro K hK)
    refine WC.region rfl ?_
    refine WL.want rfl (WL1.give rfl (g_move rfl (.mk (v := .slice _ _ _) rfl rfl)) ?_)
    refine WL.want rfl (WL1.give rfl (g_len rfl (.mk rfl rfl) rfl) ?_)
    refine WL.want rfl (WL1.give rfl (g_gt rfl (.mk rfl rfl) (.mk rfl rfl) (decide_eq_true (by omega))) ?_)
    refine WL.want rfl (WL1.give rfl (g_move rfl (.mk (v := .bool _) rfl rfl)) ?_)
    refine WL.skipG rfl rfl rfl rfl rfl rfl ?_
    refine WL.skipG rfl rfl rfl rfl rfl rfl ?_
    refine WL.skipG rfl rfl rfl rfl rfl rfl ?_
    refine WL.want rfl (WL1.give rfl (g_pickT rfl (.mk rfl rfl) (.mk (v := .bool _) rfl rfl)) ?_)
    refine WL.nil ?_
    (refine hK _ _ ?_; clear hK)
    refine WC.cond_true (.mk rfl rfl) ?_
    (refine WC.seq ?_; intro K hK)
    refine WC.region rfl ?_
    refine WL.want rfl (WL1.give rfl (g_assign rfl (.mk (v := .bool _) rfl rfl)) ?_)
    refine WL.nil ?_
    (refine hK _ _ ?_; clear hK)
    refine WC.ret ?_
    exact fun w' hw' => ⟨rfl, hw'.1⟩
  by_cases hn2 : 60 < ps.length
  · refine calls_wc (args := [.slice V bs.length cV, .slice V1 ps.length cV1]) [4] [] Try.func6 rfl Try.ntmps6 rfl rfl rfl rfl (H.refl _) ?_
    (refine WC.seq ?_; intro K hK)
    refine WC.region rfl ?_
    refine WL.want rfl (WL1.give rfl (g_assign rfl (.mk (v := .bool _) rfl rfl)) ?_)
    refine WL.nil ?_
    (refine hK _ _ ?_; clear hK)
    (refine WC.seq ?_; intro K hK)
    (refine WC.seq ?_; intro K hK)
    refine WC.region rfl ?_
    refine WL.want rfl (WL1.callP rfl rfl rfl .nil (fun w hw => awake_e) ?_)
    refine WL.want rfl (WL1.give rfl (g_notT rfl (.mk rfl rfl)) ?_)
    refine WL.nil ?_
    (refine hK _ _ ?_; clear hK)
    refine WC.cond_false (.mk rfl rfl) ?_
    refine WC.skip ?_
    (refine hK _ _ ?_; clear hK)
    (refine WC.seq ?_; intro K hK)
    (refine WC.seq ?_; intro K hK)
    refine WC.region rfl ?_
    refine WL.want rfl (WL1.give rfl (g_move rfl (.mk (v := .slice _ _ _) rfl rfl)) ?_)
    refine WL.want rfl (WL1.give rfl (g_len rfl (.mk rfl rfl) rfl) ?_)
    refine WL.want rfl (WL1.give rfl (g_gt rfl (.mk rfl rfl) (.mk rfl rfl) (decide_eq_false (by omega))) ?_)
    refine WL.want rfl (WL1.give rfl (g_move rfl (.mk (v := .bool _) rfl rfl)) ?_)
    refine WL.wantG rfl rfl rfl rfl (WL1.give rfl (g_move rfl (.mk (v := .slice _ _ _) rfl rfl)) ?_)
    refine WL.wantG rfl rfl rfl rfl (WL1.give rfl (g_len rfl (.mk rfl rfl) rfl) ?_)
    refine WL.wantG rfl rfl rfl rfl (WL1.give rfl (g_gt rfl (.mk rfl rfl) (.mk rfl rfl) (decide_eq_true (by omega))) ?_)
    refine WL.want rfl (WL1.give rfl (g_pickF rfl (.mk rfl rfl) (.mk (v := .bool _) rfl rfl)) ?_)
    refine WL.nil ?_
    (refine hK _ _ ?_; clear hK)
    refine WC.cond_true (.mk rfl rfl) ?_
    (refine WC.seq ?_; intro K hK)
    refine WC.region rfl ?_
    refine WL.want rfl (WL1.give rfl (g_assign rfl (.mk (v := .bool _) rfl rfl)) ?_)
    refine WL.nil ?_
    (refine hK _ _ ?_; clear hK)
    refine WC.ret ?_
    exact fun w' hw' => ⟨rfl, hw'.1⟩
  have hwb : ∀ k, k < bs.length → 1 ≤ wf (nth bs k) ∧ wf (nth bs k) ≤ 16 := fun k hk => by unfold wf; omega
  refine calls_wc (args := [.slice V bs.length cV, .slice V1 ps.length cV1]) [4] [] Try.func6 rfl Try.ntmps6 rfl rfl rfl rfl (H.refl _) ?_
  (refine WC.seq ?_; intro K hK)
  refine WC.region rfl ?_
  refine WL.want rfl (WL1.give rfl (g_assign rfl (.mk (v := .bool _) rfl rfl)) ?_)
  refine WL.nil ?_
  (refine hK _ _ ?_; clear hK)
  (refine WC.seq ?_; intro K hK)
  (refine WC.seq ?_; intro K hK)
  refine WC.region rfl ?_
  refine WL.want rfl (WL1.callP rfl rfl rfl .nil (fun w hw => awake_e) ?_)
  refine WL.want rfl (WL1.give rfl (g_notT rfl (.mk rfl rfl)) ?_)
  refine WL.nil ?_
  (refine hK _ _ ?_; clear hK)
  refine WC.cond_false (.mk rfl rfl) ?_
  refine WC.skip ?_
  (refine hK _ _ ?_; clear hK)
  (refine WC.seq ?_; intro K hK)
  (refine WC.seq ?_; intro K hK)
  refine WC.region rfl ?_
  refine WL.want rfl (WL1.give rfl (g_move rfl (.mk (v := .slice _ _ _) rfl rfl)) ?_)
  refine WL.want rfl (WL1.give rfl (g_len rfl (.mk rfl rfl) rfl) ?_)
  refine WL.want rfl (WL1.give rfl (g_gt rfl (.mk rfl rfl) (.mk rfl rfl) (decide_eq_false (by omega))) ?_)
  refine WL.want rfl (WL1.give rfl (g_move rfl (.mk (v := .bool _) rfl rfl)) ?_)
  refine WL.wantG rfl rfl rfl rfl (WL1.give rfl (g_move rfl (.mk (v := .slice _ _ _) rfl rfl)) ?_)
  refine WL.wantG rfl rfl rfl rfl (WL1.give rfl (g_len rfl (.mk rfl rfl) rfl) ?_)
  refine WL.wantG rfl rfl rfl rfl (WL1.give rfl (g_gt rfl (.mk rfl rfl) (.mk rfl rfl) (decide_eq_false (by omega))) ?_)
  refine WL.want rfl (WL1.give rfl (g_pickF rfl (.mk rfl rfl) (.mk (v := .bool _) rfl rfl)) ?_)
  refine WL.nil ?_
  (refine hK _ _ ?_; clear hK)
  refine WC.cond_false (.mk rfl rfl) ?_
  refine WC.skip ?_
  (refine hK _ _ ?_; clear hK)
  (refine WC.seq ?_; intro K hK)
  refine WC.region rfl ?_
  (refine WL.want rfl (WL1.callN rfl rfl rfl .nil (fun w hw => new_n) ?_); rintro _ _ ⟨S, rfl, rfl⟩)
  refine WL.want rfl (WL1.give rfl (g_assign rfl (.mk (v := cellPtr _ _) rfl rfl)) ?_)
  refine WL.nil ?_
  (refine hK _ _ ?_; clear hK)
  (refine WC.seq ?_; intro K hK)
  refine WC.region rfl ?_
  refine WL.want rfl (WL1.give rfl (g_assign rfl (.mk (v := .slice _ _ _) rfl rfl)) ?_)
  refine WL.nil ?_
  (refine hK _ _ ?_; clear hK)
  (refine WC.seq ?_; intro K hK)
  (refine WC.seq ?_; intro K hK)
  refine WC.region rfl ?_
  refine WL.want rfl (WL1.give rfl (g_move rfl (.mk (v := .slice _ _ _) rfl rfl)) ?_)
  refine WL.want rfl (WL1.give rfl (g_len rfl (.mk rfl rfl) rfl) ?_)
  refine WL.want rfl (WL1.give rfl (g_move rfl (.mk (v := .int _ _) rfl rfl)) ?_)
  refine WL.nil ?_
  (refine hK _ _ ?_; clear hK)
  refine WC.block ?_
  refine WC.nilvec MT 1 ?_
  refine WC.loopI5 (36028788429030208) (fun (i : Nat) (Ac : Option Addr × Nat) (Bc : Option Addr × Nat) (es : List En) (js : List Jb) => [(33, iv i), (6, .slice Bc.1 i Bc.2)]) (fun i Ac Bc es js => schd S Ac.1 Ac.2 i es ++ jbs js :: vec Bc.1 i Bc.2 MT 1 (jptrs js) :: []) (fun i _ _ es js => i ≤ bs.length ∧ Bld (fun k => wf (nth bs k)) (fun k => lf (nth bs k)) i es js) (fun i _ _ _ _ => bs.length - i) 0 (none, 0) (none, 0) [] [] ⟨rfl, rfl, trivial⟩ ?_ ⟨by omega, Bld.zero _ _⟩ ?_
  · exact Imp.trans (Imp.pick (.tail .head) (Imp.pick (.tail .head) (Imp.pick (.tail .head) (Imp.refl _)))) (Imp.cons (Imp.cons (Imp.cons jbs_none)))
  rintro i ⟨A, c⟩ ⟨B, cB⟩ es js U ⟨hi, hBd⟩
  have hel := hBd.len
  dsimp only
  by_cases hlt : i < bs.length
  · have hx := hbr (nth bs i) (nth_mem (by omega))
    have hrm : (nth bs i).tmod 16 = nth bs i % 16 := Int.tmod_eq_emod_of_nonneg (by omega)
    have hAd := fun p j => hBd.add (p := p) (j := j) (wt := 1 + nth bs i % 16) (l := 1 + nth bs i) rfl rfl
    (refine WC.seq ?_; intro K hK)
    refine WC.region rfl ?_
    refine WL.want rfl (WL1.give rfl (g_lt rfl (.mk rfl rfl) (.mk rfl rfl) (decide_eq_true (by omega))) ?_)
    refine WL.nil ?_
    (refine hK _ _ ?_; clear hK)
    (refine WC.seq ?_; intro K hK)
    refine WC.cond_true (.mk rfl rfl) ?_
    refine WC.skip ?_
    (refine hK _ _ ?_; clear hK)
    (refine WC.seq ?_; intro K hK)
    refine WC.block ?_
    (refine WC.seq ?_; intro K hK)
    refine WC.region rfl ?_
    refine WL.want rfl (WL1.give rfl (g_indexAddr (sz := 1) rfl (.mk rfl rfl) (.mk rfl rfl) rfl rfl rfl (by omega) (fun _ _ => sl_some hs (by omega))) ?_)
    refine WL.want rfl (WL1.give rfl (g_load rfl (.mk rfl rfl) rfl (rd_sl hs (get1 (by omega)))) ?_)
    refine WL.want rfl (WL1.give rfl (g_assign rfl (.mk (v := .int _ _) rfl rfl)) ?_)
    refine WL.nil ?_
    (refine hK _ _ ?_; clear hK)
    (refine WC.seq ?_; intro K hK)
    refine WC.region rfl ?_
    refine WL.want rfl (WL1.give rfl (g_move rfl (.mk (v := .int _ _) rfl rfl)) ?_)
    refine WL.want rfl (WL1.give rfl (g_conv rfl rfl rfl (.mk rfl rfl) (IntWalk.i64_in _ (by omega))) ?_)
    refine WL.want rfl (WL1.give rfl (g_add rfl (.mk rfl rfl) (.mk rfl rfl) (IntWalk.i64_in _ (by omega))) ?_)
    refine WL.want rfl (WL1.give rfl (g_build (cs := [_, _]) rfl rfl rfl rfl (.cons (.mk (v := .int _ _) rfl rfl) .nil) rfl rfl rfl) ?_)
    refine WL.want rfl (WL1.box rfl rfl (.mk (v := .agg _) rfl rfl) rfl (fun b41 => ?_))
    refine WL.want rfl (WL1.give rfl (g_assign rfl (.mk (v := cellPtr _ _) rfl rfl)) ?_)
    refine WL.nil ?_
    (refine hK _ _ ?_; clear hK)
    (refine WC.seq ?_; intro K hK)
    refine WC.region rfl ?_
    refine WL.want rfl (WL1.give rfl (g_move rfl (.mk (v := cellPtr _ _) rfl rfl)) ?_)
    refine WL.want rfl (WL1.give rfl (g_move rfl (.mk (v := cellPtr _ _) rfl rfl)) ?_)
    refine WL.want rfl (WL1.give rfl (g_mkIface rfl (.mk (v := cellPtr _ _) rfl rfl) rfl) ?_)
    refine WL.want rfl (WL1.give rfl (g_move rfl (.mk (v := .int _ _) rfl rfl)) ?_)
    refine WL.want rfl (WL1.give rfl (g_rem rfl (.mk rfl rfl) (.mk rfl rfl) (by omega) hrm) ?_)
    refine WL.want rfl (WL1.give rfl (g_conv rfl rfl rfl (.mk rfl rfl) (IntWalk.i64_in _ (by omega))) ?_)
    refine WL.want rfl (WL1.give rfl (g_add rfl (.mk rfl rfl) (.mk rfl rfl) (IntWalk.i64_in _ (by omega))) ?_)
    (refine WL.want rfl (WL1.callF rfl rfl rfl (.cons (.mk (v := cellPtr _ _) rfl rfl) (.cons (.mk (v := .iface _ _) rfl rfl) (.cons (.mk (v := .int _ _) rfl rfl) .nil))) (fun w hw => add_ok (last := i) (j := b41) (x := 1 + nth bs i % 16) (by omega) (by omega) (by omega) (by omega) (by omega) (hw.perm (List.perm_middle (l₁ := schd S A c i es)).symm)) ?_); rintro _ _ ⟨A1, c1, p1, rfl, rfl⟩)
    refine WL.nil ?_
    (refine hK _ _ ?_; clear hK)
    refine WC.region rfl ?_
    refine WL.want rfl (WL1.give rfl (g_move rfl (.mk (v := .slice _ _ _) rfl rfl)) ?_)
    refine WL.want rfl (WL1.give rfl (g_move rfl (.mk (v := cellPtr _ _) rfl rfl)) ?_)
    refine WL.want rfl (WL1.lit (sz := 1) (vs := [bp b41]) (cs := [bp b41]) elM rfl rfl rfl (.cons (.mk (v := cellPtr _ _) rfl rfl) .nil) rfl (one_ptr b41) (flat_ptr b41) rfl (fun b52 => ?_))
    refine WL.want rfl (WL1.append elM rfl rfl (.mk rfl rfl) (.mk rfl rfl) (.tail (.tail (.tail (.tail (.tail (.tail (.head))))))) (fun w hw => Sl.of_vec hw (.head _)) (all_ptr _) (by unfold maxLen; omega) (by omega) (fun A53 c53 => ?_))
    refine WL.want rfl (WL1.give rfl (g_assign rfl (.mk (v := .slice _ _ _) rfl rfl)) ?_)
    refine WL.nil ?_
    (refine hK _ _ ?_; clear hK)
    refine WC.region rfl ?_
    refine WL.want rfl (WL1.give rfl (g_add rfl (.mk rfl rfl) (.mk rfl rfl) (IntWalk.i64_in _ (by omega))) ?_)
    refine WL.want rfl (WL1.give rfl (g_move rfl (.mk (v := .int _ _) rfl rfl)) ?_)
    refine WL.nil ?_
    refine ⟨i + 1, (A1, c1), (A53, c53), es ++ [⟨p1, (i : Int) + 1, 1 + nth bs i % 16, 0, b41⟩], js ++ [⟨b41, 1 + nth bs i, 0⟩], (by repeat (first | with_reducible exact Out.refl _ _ | refine Out.set rfl ?_ | refine Out.put rfl ?_ | refine Out.sets rfl ?_ | refine Out.hav rfl ?_ | exact Out.refl _ _)), ⟨rfl, rfl, trivial⟩, ?_, ⟨by omega, hAd _ _⟩, by omega⟩
    rw [← jptrs_new, show ((i + 1 : Nat) : Int) = (i : Int) + 1 from by simp]
    refine Imp.trans (M := schd S A1 c1 ((i : Int) + 1) (es ++ [(⟨p1, (i : Int) + 1, 1 + nth bs i % 16, 0, b41⟩ : En)]) ++ jb ⟨b41, 1 + nth bs i, 0⟩ :: jbs js :: vec A53 (i + 1) c53 MT 1 (jptrs js ++ [bp b41]) :: []) ?_ (Imp.cons (Imp.cons (Imp.cons (jbs_new (js := js) (e := ⟨b41, 1 + nth bs i, 0⟩)))))
    exact Imp.pick (by repeat (first | exact .head | apply Take.tail)) (Imp.pick (by repeat (first | exact .head | apply Take.tail)) (Imp.pick (by repeat (first | exact .head | apply Take.tail)) (Imp.pick (by repeat (first | exact .head | apply Take.tail)) (Imp.pick (by repeat (first | exact .head | apply Take.tail)) (Imp.pick (by repeat (first | exact .head | apply Take.tail)) (Imp.nil _))))))
  · obtain rfl : i = bs.length := by omega
    have hF0 := Bld.os hBd hwb
    (refine WC.seq ?_; intro K hK)
    refine WC.region rfl ?_
    refine WL.want rfl (WL1.give rfl (g_lt rfl (.mk rfl rfl) (.mk rfl rfl) (decide_eq_false (by omega))) ?_)
    refine WL.nil ?_
    (refine hK _ _ ?_; clear hK)
    (refine WC.seq ?_; intro K hK)
    refine WC.cond_false (.mk rfl rfl) ?_
    refine WC.exit ?_
    (clear hK; refine hK _ _ ?_; clear hK)
    (refine WC.seq ?_; intro K hK)
    (refine WC.seq ?_; intro K hK)
    refine WC.region rfl ?_
    refine WL.want rfl (WL1.give rfl (g_move rfl (.mk (v := .slice _ _ _) rfl rfl)) ?_)
    refine WL.want rfl (WL1.give rfl (g_len rfl (.mk rfl rfl) rfl) ?_)
    refine WL.want rfl (WL1.give rfl (g_move rfl (.mk (v := .int _ _) rfl rfl)) ?_)
    refine WL.nil ?_
    (refine hK _ _ ?_; clear hK)
    refine WC.block ?_
    refine WC.loopI3 (93536104789177786765035829293841969142791607941136) (fun (k : Nat) (es : List En) (js : List Jb) => [(57, iv k)]) (fun k es js => schd S A c bs.length es ++ jbs js :: vec B bs.length cB MT 1 (jptrs js) :: []) (fun k es js => k ≤ ps.length ∧ OS bs.length k es js) (fun k _ _ => ps.length - k) 0 es js ⟨rfl, trivial⟩ (Imp.refl _) ⟨by omega, hF0⟩ ?_
    clear hBd hel hF0
    clear es js
    rintro k es js U2 ⟨hk, hF⟩
    have hel := hF.len
    have hjl := hF.lenj
    by_cases hkl : k < ps.length
    · have hp := hpr (nth ps k) (nth_mem hkl)
      (refine WC.seq ?_; intro K hK)
      refine WC.region rfl ?_
      refine WL.want rfl (WL1.give rfl (g_lt rfl (.mk rfl rfl) (.mk rfl rfl) (decide_eq_true (by omega))) ?_)
      refine WL.nil ?_
      (refine hK _ _ ?_; clear hK)
      (refine WC.seq ?_; intro K hK)
      refine WC.cond_true (.mk rfl rfl) ?_
      refine WC.skip ?_
      (refine hK _ _ ?_; clear hK)
      (refine WC.seq ?_; intro K hK)
      refine WC.block ?_
      (refine WC.seq ?_; intro K hK)
      refine WC.region rfl ?_
      refine WL.want rfl (WL1.give rfl (g_indexAddr (sz := 1) rfl (.mk rfl rfl) (.mk rfl rfl) rfl rfl rfl (by omega) (fun _ _ => sl_some hs1 (by omega))) ?_)
      refine WL.want rfl (WL1.give rfl (g_load rfl (.mk rfl rfl) rfl (rd_sl hs1 (get1 (by omega)))) ?_)
      refine WL.want rfl (WL1.give rfl (g_assign rfl (.mk (v := .int _ _) rfl rfl)) ?_)
      refine WL.nil ?_
      (refine hK _ _ ?_; clear hK)
      (refine WC.seq ?_; intro K hK)
      refine WC.region rfl ?_
      refine WL.want rfl (WL1.give rfl (g_move rfl (.mk (v := .slice _ _ _) rfl rfl)) ?_)
      refine WL.want rfl (WL1.give rfl (g_len rfl (.mk rfl rfl) rfl) ?_)
      refine WL.want rfl (WL1.make elI rfl rfl (.mk rfl rfl) (.mk rfl rfl) rfl rfl (by omega) (by unfold maxLen; omega) (fun b63 => ?_))
      refine WL.want rfl (WL1.give rfl (g_assign rfl (.mk (v := .slice _ _ _) rfl rfl)) ?_)
      refine WL.nil ?_
      (refine hK _ _ ?_; clear hK)
      (refine WC.seq ?_; intro K hK)
      (refine WC.seq ?_; intro K hK)
      refine WC.region rfl ?_
      refine WL.want rfl (WL1.give rfl (g_move rfl (.mk (v := .slice _ _ _) rfl rfl)) ?_)
      refine WL.want rfl (WL1.give rfl (g_len rfl (.mk rfl rfl) rfl) ?_)
      refine WL.want rfl (WL1.give rfl (g_move rfl (.mk (v := .int _ _) rfl rfl)) ?_)
      refine WL.nil ?_
      (refine hK _ _ ?_; clear hK)
      refine WC.block ?_
      have hdl := ds_len js
      refine WC.loopI (604389122831019749171200) (fun q : Nat => [(66, iv q)]) (fun q => schd S A c bs.length es ++ jbs js :: vec B bs.length cB MT 1 (jptrs js) :: vec (some ⟨b63, 0, none⟩) bs.length bs.length 3 1 (fillv (ivs (js.map (·.d))) (iv 0) q) :: []) (fun q => q ≤ bs.length) (fun q => bs.length - q) 0 ⟨rfl, trivial⟩ ?_ (by omega) ?_
      · rw [fillv_zero, hdl, hjl, ← made_one]
        exact Imp.pick (by repeat (first | exact .head | apply Take.tail)) (Imp.pick (by repeat (first | exact .head | apply Take.tail)) (Imp.pick (by repeat (first | exact .head | apply Take.tail)) (Imp.pick (by repeat (first | exact .head | apply Take.tail)) (Imp.pick (by repeat (first | exact .head | apply Take.tail)) (Imp.pick (by repeat (first | exact .head | apply Take.tail)) (Imp.nil _))))))
      intro q U3 hq
      have hfl := fillv_length (ivs (js.map (·.d))) (iv 0) (k := q) (by omega)
      by_cases hql : q < bs.length
      · have hjp := jptrs_get (js := js) (k := q) (by omega)
        have hjm := job_mem (js := js) (k := q) (by omega)
        have hdg := ds_get (js := js) (k := q) (by omega)
        (refine WC.seq ?_; intro K hK)
        refine WC.region rfl ?_
        refine WL.want rfl (WL1.give rfl (g_lt rfl (.mk rfl rfl) (.mk rfl rfl) (decide_eq_true (by omega))) ?_)
        refine WL.nil ?_
        (refine hK _ _ ?_; clear hK)
        (refine WC.seq ?_; intro K hK)
        refine WC.cond_true (.mk rfl rfl) ?_
        refine WC.skip ?_
        (refine hK _ _ ?_; clear hK)
        (refine WC.seq ?_; intro K hK)
        refine WC.block ?_
        (refine WC.seq ?_; intro K hK)
        refine WC.region rfl ?_
        refine WL.want rfl (WL1.give rfl (g_move rfl (.mk (v := .int _ _) rfl rfl)) ?_)
        refine WL.want rfl (WL1.give rfl (g_indexAddr (sz := 1) rfl (.mk rfl rfl) (.mk rfl rfl) rfl rfl rfl (by omega) (fun w hw => vec_some hw (.tail _ (.tail _ (.tail _ (.tail _ (.head _))))) (by omega))) ?_)
        refine WL.want rfl (WL1.give rfl (g_load rfl (.mk rfl rfl) rfl (rd_vec (by first | ((repeat (first | exact .head _ | apply List.Mem.tail)); done) | fail) hjp)) ?_)
        refine WL.want rfl (WL1.give rfl (g_assign rfl (.mk (v := .int _ _) rfl rfl)) ?_)
        refine WL.want rfl (WL1.give rfl (g_assign rfl (.mk (v := cellPtr _ _) rfl rfl)) ?_)
        refine WL.nil ?_
        (refine hK _ _ ?_; clear hK)
        refine WC.region rfl ?_
        refine WL.want rfl (WL1.give rfl (g_move rfl (.mk (v := .slice _ _ _) rfl rfl)) ?_)
        refine WL.want rfl (WL1.give rfl (g_move rfl (.mk (v := .int _ _) rfl rfl)) ?_)
        refine WL.want rfl (WL1.give rfl (g_move rfl (.mk (v := cellPtr _ _) rfl rfl)) ?_)
        refine WL.want rfl (WL1.give rfl (g_nilCheck rfl (.mk rfl rfl) (fun _ _ => rfl)) ?_)
        refine WL.want rfl (WL1.give rfl (g_fieldAddr (off := 1) rfl (.mk rfl rfl) rfl (fun _ _ => rfl)) ?_)
        refine WL.want rfl (WL1.give rfl (g_load rfl (.mk rfl rfl) rfl (rd_bun (M := js.map jb) (by first | ((repeat (first | exact .head _ | apply List.Mem.tail)); done) | fail) hjm rfl)) ?_)
        refine WL.want rfl (WL1.give rfl (g_indexAddr (sz := 1) rfl (.mk rfl rfl) (.mk rfl rfl) rfl rfl rfl (by omega) (fun _ _ => rfl)) ?_)
        refine WL.want rfl (WL1.storeV1 rfl rfl (.mk rfl rfl) (.mk (v := .int _ _) rfl rfl) rfl rfl (by first | omega | (simp; done) | (simp; omega)) (.tail (.tail (.tail (.tail (.tail (.head)))))) ?_)
        refine WL.nil ?_
        (refine hK _ _ ?_; clear hK)
        refine WC.region rfl ?_
        refine WL.want rfl (WL1.give rfl (g_add rfl (.mk rfl rfl) (.mk rfl rfl) (IntWalk.i64_in _ (by omega))) ?_)
        refine WL.want rfl (WL1.give rfl (g_move rfl (.mk (v := .int _ _) rfl rfl)) ?_)
        refine WL.nil ?_
        refine ⟨q + 1, (by repeat (first | with_reducible exact Out.refl _ _ | refine Out.set rfl ?_ | refine Out.put rfl ?_ | refine Out.sets rfl ?_ | refine Out.hav rfl ?_ | exact Out.refl _ _)), ⟨rfl, trivial⟩, ?_, by omega, by omega⟩
        rw [Nat.mul_one, fillv_set _ _ _ hdg]
        exact Imp.refl _
      · obtain rfl : q = bs.length := by omega
        rw [show fillv (ivs (js.map (·.d))) (iv 0) bs.length = ivs (js.map (·.d)) from by rw [← hjl, ← hdl]; exact fillv_all _ _]
        clear hfl
        by_cases he0 : es.length = 0
        · (refine WC.seq ?_; intro K hK)
          refine WC.region rfl ?_
          refine WL.want rfl (WL1.give rfl (g_lt rfl (.mk rfl rfl) (.mk rfl rfl) (decide_eq_false (by omega))) ?_)
          refine WL.nil ?_
          (refine hK _ _ ?_; clear hK)
          (refine WC.seq ?_; intro K hK)
          refine WC.cond_false (.mk rfl rfl) ?_
          refine WC.exit ?_
          (clear hK; refine hK _ _ ?_; clear hK)
          (refine WC.seq ?_; intro K hK)
          refine WC.region rfl ?_
          refine WL.want rfl (WL1.give rfl (g_assign rfl (.mk (v := .int _ _) rfl rfl)) ?_)
          refine WL.nil ?_
          (refine hK _ _ ?_; clear hK)
          (refine WC.seq ?_; intro K hK)
          refine WC.region rfl ?_
          refine WL.want rfl (WL1.give rfl (g_assign rfl (.mk (v := .bool _) rfl rfl)) ?_)
          refine WL.nil ?_
          (refine hK _ _ ?_; clear hK)
          (refine WC.seq ?_; intro K hK)
          refine WC.region rfl ?_
          refine WL.want rfl (WL1.give rfl (g_assign rfl (.mk (v := .int _ _) rfl rfl)) ?_)
          refine WL.nil ?_
          (refine hK _ _ ?_; clear hK)
          (refine WC.seq ?_; intro K hK)
          (refine WC.seq ?_; intro K hK)
          refine WC.region rfl ?_
          refine WL.want rfl (WL1.give rfl (g_move rfl (.mk (v := .int _ _) rfl rfl)) ?_)
          refine WL.want rfl (WL1.give rfl (g_rem rfl (.mk rfl rfl) (.mk rfl rfl) (by omega) (Int.tmod_eq_emod_of_nonneg (by omega))) ?_)
          refine WL.want rfl (WL1.giveD rfl (g_eq rfl (.mk rfl rfl) (.mk rfl rfl) rfl) (fun _ => ?_) (fun _ => ?_))
          refine WL.nil ?_
          (refine hK _ _ ?_; clear hK)
          refine WC.cond_true (.mk rfl rfl) ?_
          refine WC.region rfl ?_
          refine WL.want rfl (WL1.give rfl (g_move rfl (.mk (v := cellPtr _ _) rfl rfl)) ?_)
          refine WL.want rfl (WL1.give rfl (g_move rfl (.mk (v := .int _ _) rfl rfl)) ?_)
          refine WL.want rfl (WL1.give rfl (g_quo rfl (.mk rfl rfl) (.mk rfl rfl) (by omega) (IntWalk.u8_quo _ _ (by omega))) ?_)
          refine WL.want rfl (WL1.give rfl (g_conv rfl rfl rfl (.mk rfl rfl) (IntWalk.i64_in _ (by omega))) ?_)
          refine WL.want rfl (WL1.callP rfl rfl rfl (.cons (.mk (v := cellPtr _ _) rfl rfl) (.cons (.mk (v := .int _ _) rfl rfl) .nil)) (fun w hw => pick_no he0 hw) ?_)
          refine WL.want rfl (WL1.give rfl (g_move rfl (.mk (v := .tuple _) rfl rfl)) ?_)
          refine WL.want rfl (WL1.give rfl (g_extract rfl (.mk rfl rfl) rfl) ?_)
          refine WL.want rfl (WL1.give rfl (g_extract rfl (.mk rfl rfl) rfl) ?_)
          refine WL.want rfl (WL1.give rfl (g_extract rfl (.mk rfl rfl) rfl) ?_)
          refine WL.want rfl (WL1.give rfl (g_assign rfl (.mk (v := .int _ _) rfl rfl)) ?_)
          refine WL.want rfl (WL1.give rfl (g_assign rfl (.mk (v := .bool _) rfl rfl)) ?_)
          refine WL.want rfl (WL1.give rfl (g_assign rfl (.mk (v := .int _ _) rfl rfl)) ?_)
          refine WL.nil ?_
          (refine hK _ _ ?_; clear hK)
          (refine WC.seq ?_; intro K hK)
          (refine WC.seq ?_; intro K hK)
          refine WC.region rfl ?_
          refine WL.want rfl (WL1.give rfl (g_move rfl (.mk (v := .int _ _) rfl rfl)) ?_)
          refine WL.want rfl (WL1.give rfl (g_ne rfl (.mk rfl rfl) (.mk rfl rfl) (decide_eq_true (by omega))) ?_)
          refine WL.nil ?_
          (refine hK _ _ ?_; clear hK)
          refine WC.cond_true (.mk rfl rfl) ?_
          (refine WC.seq ?_; intro K hK)
          refine WC.region rfl ?_
          refine WL.want rfl (WL1.give rfl (g_move rfl (.mk (v := .int _ _) rfl rfl)) ?_)
          refine WL.want rfl (WL1.give rfl (g_eq rfl (.mk rfl rfl) (.mk rfl rfl) (decide_eq_true (by omega))) ?_)
          refine WL.want rfl (WL1.give rfl (g_move rfl (.mk (v := .bool _) rfl rfl)) ?_)
          refine WL.wantG rfl rfl rfl rfl (WL1.give rfl (g_move rfl (.mk (v := cellPtr _ _) rfl rfl)) ?_)
          (refine WL.wantG rfl rfl rfl rfl (WL1.callN rfl rfl rfl (.cons (.mk (v := cellPtr _ _) rfl rfl) .nil) (fun w hw => ids_n (by omega) hw) ?_); rintro _ _ ⟨C, cC, rfl, rfl⟩)
          refine WL.wantG rfl rfl rfl rfl (WL1.give rfl (g_len rfl (.mk rfl rfl) rfl) ?_)
          refine WL.wantG rfl rfl rfl rfl (WL1.give rfl (g_eq rfl (.mk rfl rfl) (.mk rfl rfl) (decide_eq_true (by omega))) ?_)
          refine WL.want rfl (WL1.give rfl (g_pickT rfl (.mk rfl rfl) (.mk (v := .bool _) rfl rfl)) ?_)
          refine WL.want rfl (WL1.give rfl (g_assign rfl (.mk (v := .bool _) rfl rfl)) ?_)
          refine WL.nil ?_
          (refine hK _ _ ?_; clear hK)
          refine WC.ret ?_
          rotate_left
          refine WL.nil ?_
          (refine hK _ _ ?_; clear hK)
          refine WC.cond_false (.mk rfl rfl) ?_
          refine WC.region rfl ?_
          refine WL.want rfl (WL1.give rfl (g_move rfl (.mk (v := cellPtr _ _) rfl rfl)) ?_)
          refine WL.want rfl (WL1.callP rfl rfl rfl (.cons (.mk (v := cellPtr _ _) rfl rfl) .nil) (fun w hw => fair_no he0 hw) ?_)
          refine WL.want rfl (WL1.give rfl (g_move rfl (.mk (v := .tuple _) rfl rfl)) ?_)
          refine WL.want rfl (WL1.give rfl (g_extract rfl (.mk rfl rfl) rfl) ?_)
          refine WL.want rfl (WL1.give rfl (g_extract rfl (.mk rfl rfl) rfl) ?_)
          refine WL.want rfl (WL1.give rfl (g_extract rfl (.mk rfl rfl) rfl) ?_)
          refine WL.want rfl (WL1.give rfl (g_assign rfl (.mk (v := .int _ _) rfl rfl)) ?_)
          refine WL.want rfl (WL1.give rfl (g_assign rfl (.mk (v := .bool _) rfl rfl)) ?_)
          refine WL.want rfl (WL1.give rfl (g_assign rfl (.mk (v := .int _ _) rfl rfl)) ?_)
          refine WL.nil ?_
          (refine hK _ _ ?_; clear hK)
          (refine WC.seq ?_; intro K hK)
          (refine WC.seq ?_; intro K hK)
          refine WC.region rfl ?_
          refine WL.want rfl (WL1.give rfl (g_move rfl (.mk (v := .int _ _) rfl rfl)) ?_)
          refine WL.want rfl (WL1.give rfl (g_ne rfl (.mk rfl rfl) (.mk rfl rfl) (decide_eq_true (by omega))) ?_)
          refine WL.nil ?_
          (refine hK _ _ ?_; clear hK)
          refine WC.cond_true (.mk rfl rfl) ?_
          (refine WC.seq ?_; intro K hK)
          refine WC.region rfl ?_
          refine WL.want rfl (WL1.give rfl (g_move rfl (.mk (v := .int _ _) rfl rfl)) ?_)
          refine WL.want rfl (WL1.give rfl (g_eq rfl (.mk rfl rfl) (.mk rfl rfl) (decide_eq_true (by omega))) ?_)
          refine WL.want rfl (WL1.give rfl (g_move rfl (.mk (v := .bool _) rfl rfl)) ?_)
          refine WL.wantG rfl rfl rfl rfl (WL1.give rfl (g_move rfl (.mk (v := cellPtr _ _) rfl rfl)) ?_)
          (refine WL.wantG rfl rfl rfl rfl (WL1.callN rfl rfl rfl (.cons (.mk (v := cellPtr _ _) rfl rfl) .nil) (fun w hw => ids_n (by omega) hw) ?_); rintro _ _ ⟨C, cC, rfl, rfl⟩)
          refine WL.wantG rfl rfl rfl rfl (WL1.give rfl (g_len rfl (.mk rfl rfl) rfl) ?_)
          refine WL.wantG rfl rfl rfl rfl (WL1.give rfl (g_eq rfl (.mk rfl rfl) (.mk rfl rfl) (decide_eq_true (by omega))) ?_)
          refine WL.want rfl (WL1.give rfl (g_pickT rfl (.mk rfl rfl) (.mk (v := .bool _) rfl rfl)) ?_)
          refine WL.want rfl (WL1.give rfl (g_assign rfl (.mk (v := .bool _) rfl rfl)) ?_)
          refine WL.nil ?_
          (refine hK _ _ ?_; clear hK)
          refine WC.ret ?_
          rotate_left
          all_goals exact fun w' hw' => ⟨rfl, hw'.1⟩
        · by_cases hpar : nth ps k % 2 = 0
          · obtain ⟨m, hm, hmt⟩ : ∃ m, m < es.length ∧ (nth ps k / 2).tmod es.length = (m : Int) := by
              refine ⟨((nth ps k / 2).tmod es.length).toNat, ?_, ?_⟩
              · have h1 := Int.tmod_lt_of_pos (nth ps k / 2) (show (0 : Int) < es.length by omega)
                have h2 := Int.tmod_nonneg (es.length : Int) (show 0 ≤ nth ps k / 2 by omega)
                omega
              · have h2 := Int.tmod_nonneg (es.length : Int) (show 0 ≤ nth ps k / 2 by omega)
                omega
            have hD := hF.did (by omega) (by omega) hm
            have HP : ∀ w', H w (schd S A c bs.length es ++ jbs js :: vec B bs.length cB MT 1 (jptrs js) :: vec (some ⟨b63, 0, none⟩) bs.length bs.length 3 1 (ivs (js.map (·.d))) :: []) w' → Calls Try.prog 13 #[bp S, iv (nth ps k / 2)] w' fun e w'' => ∃ u L', e = .returned u ∧ H w L' w'' ∧ u = .tuple #[iv (nth es m).id, .bool (decide ((nth js (nth es m).q).stp.l = 0)), iv 0] ∧ L' = schd S A c bs.length (stpE es js m) ++ jbs (stpJ es js m) :: vec B bs.length cB MT 1 (jptrs js) :: vec (some ⟨b63, 0, none⟩) bs.length bs.length 3 1 (ivs (js.map (·.d))) :: [] := fun w' hw' =>
              pick_f (by omega) hm (by omega) hmt hF.ok hw'
            have hquo : (nth ps k).tdiv 2 = nth ps k / 2 := Int.tdiv_eq_ediv_of_nonneg (by omega)
            generalize ((nth es m).id) = id at HP hD
            generalize (decide ((nth js (nth es m).q).stp.l = 0)) = dn at HP hD
            generalize (stpE es js m) = es1 at HP hD
            generalize (stpJ es js m) = js1 at HP hD
            obtain ⟨hos, ⟨hid1, hid2⟩, hpt, hat⟩ := hD
            have hjl1 := hos.lenj
            (refine WC.seq ?_; intro K hK)
            refine WC.region rfl ?_
            refine WL.want rfl (WL1.give rfl (g_lt rfl (.mk rfl rfl) (.mk rfl rfl) (decide_eq_false (by omega))) ?_)
            refine WL.nil ?_
            (refine hK _ _ ?_; clear hK)
            (refine WC.seq ?_; intro K hK)
            refine WC.cond_false (.mk rfl rfl) ?_
            refine WC.exit ?_
            (clear hK; refine hK _ _ ?_; clear hK)
            (refine WC.seq ?_; intro K hK)
            refine WC.region rfl ?_
            refine WL.want rfl (WL1.give rfl (g_assign rfl (.mk (v := .int _ _) rfl rfl)) ?_)
            refine WL.nil ?_
            (refine hK _ _ ?_; clear hK)
            (refine WC.seq ?_; intro K hK)
            refine WC.region rfl ?_
            refine WL.want rfl (WL1.give rfl (g_assign rfl (.mk (v := .bool _) rfl rfl)) ?_)
            refine WL.nil ?_
            (refine hK _ _ ?_; clear hK)
            (refine WC.seq ?_; intro K hK)
            refine WC.region rfl ?_
            refine WL.want rfl (WL1.give rfl (g_assign rfl (.mk (v := .int _ _) rfl rfl)) ?_)
            refine WL.nil ?_
            (refine hK _ _ ?_; clear hK)
            (refine WC.seq ?_; intro K hK)
            (refine WC.seq ?_; intro K hK)
            refine WC.region rfl ?_
            refine WL.want rfl (WL1.give rfl (g_move rfl (.mk (v := .int _ _) rfl rfl)) ?_)
            refine WL.want rfl (WL1.give rfl (g_rem rfl (.mk rfl rfl) (.mk rfl rfl) (by omega) (Int.tmod_eq_emod_of_nonneg (by omega))) ?_)
            refine WL.want rfl (WL1.give rfl (g_eq rfl (.mk rfl rfl) (.mk rfl rfl) (decide_eq_true (by omega))) ?_)
            refine WL.nil ?_
            (refine hK _ _ ?_; clear hK)
            refine WC.cond_true (.mk rfl rfl) ?_
            refine WC.region rfl ?_
            refine WL.want rfl (WL1.give rfl (g_move rfl (.mk (v := cellPtr _ _) rfl rfl)) ?_)
            refine WL.want rfl (WL1.give rfl (g_move rfl (.mk (v := .int _ _) rfl rfl)) ?_)
            refine WL.want rfl (WL1.give rfl (g_quo rfl (.mk rfl rfl) (.mk rfl rfl) (by omega) (IntWalk.u8_quo _ _ (by omega))) ?_)
            refine WL.want rfl (WL1.give rfl (g_conv rfl rfl rfl (.mk rfl rfl) (IntWalk.i64_in _ (by omega))) ?_)
            (refine WL.want rfl (WL1.callF rfl rfl rfl (.cons (.mk (v := cellPtr _ _) rfl rfl) (.cons (.mk (v := .int _ _) rfl rfl) .nil)) (fun w hw => HP w hw) ?_); rintro _ _ ⟨rfl, rfl⟩)
            refine WL.want rfl (WL1.give rfl (g_move rfl (.mk (v := .tuple _) rfl rfl)) ?_)
            refine WL.want rfl (WL1.give rfl (g_extract rfl (.mk rfl rfl) rfl) ?_)
            refine WL.want rfl (WL1.give rfl (g_extract rfl (.mk rfl rfl) rfl) ?_)
            refine WL.want rfl (WL1.give rfl (g_extract rfl (.mk rfl rfl) rfl) ?_)
            refine WL.want rfl (WL1.give rfl (g_assign rfl (.mk (v := .int _ _) rfl rfl)) ?_)
            refine WL.want rfl (WL1.give rfl (g_assign rfl (.mk (v := .bool _) rfl rfl)) ?_)
            refine WL.want rfl (WL1.give rfl (g_assign rfl (.mk (v := .int _ _) rfl rfl)) ?_)
            refine WL.nil ?_
            (refine hK _ _ ?_; clear hK)
            (refine WC.seq ?_; intro K hK)
            (refine WC.seq ?_; intro K hK)
            refine WC.region rfl ?_
            refine WL.want rfl (WL1.give rfl (g_move rfl (.mk (v := .int _ _) rfl rfl)) ?_)
            refine WL.want rfl (WL1.give rfl (g_ne rfl (.mk rfl rfl) (.mk rfl rfl) (decide_eq_false (by omega))) ?_)
            refine WL.nil ?_
            (refine hK _ _ ?_; clear hK)
            refine WC.cond_false (.mk rfl rfl) ?_
            refine WC.skip ?_
            (refine hK _ _ ?_; clear hK)
            (refine WC.seq ?_; intro K hK)
            (refine WC.seq ?_; intro K hK)
            refine WC.region rfl ?_
            refine WL.want rfl (WL1.give rfl (g_move rfl (.mk (v := .slice _ _ _) rfl rfl)) ?_)
            refine WL.want rfl (WL1.give rfl (g_len rfl (.mk rfl rfl) rfl) ?_)
            refine WL.want rfl (WL1.give rfl (g_move rfl (.mk (v := .int _ _) rfl rfl)) ?_)
            refine WL.nil ?_
            (refine hK _ _ ?_; clear hK)
            refine WC.block ?_
            refine WC.loopI (182687704666362215738353287236081811144951201808) (fun q : Nat => [(109, iv q)]) (fun q => schd S A c bs.length es1 ++ jbs js1 :: vec B bs.length cB MT 1 (jptrs js) :: vec (some ⟨b63, 0, none⟩) bs.length bs.length 3 1 (ivs (js.map (·.d))) :: []) (fun q => q ≤ bs.length) (fun q => bs.length - q) 0 ⟨rfl, trivial⟩ (Imp.refl _) (by omega) ?_
            intro q U5 hq
            by_cases hql : q < bs.length
            · obtain ⟨hb1, hy, hno⟩ := hat q hql
              have hjp := jptrs_get (js := js) (k := q) (by omega)
              rw [← hb1] at hjp
              have hjm := job_mem (js := js1) (k := q) (by omega)
              have hdg := ds_get (js := js) (k := q) (by omega)
              have hdg1 : (ivs (js.map (·.d)))[q * 1]? = some (iv (nth js q).d) := by rw [Nat.mul_one]; exact hdg
              have hr0 := hF.rng q hql
              have hr1 := hos.rng q hql
              by_cases hid : id = (q : Int) + 1
              · obtain ⟨hd, hdn⟩ := hy hid
                (refine WC.seq ?_; intro K hK)
                refine WC.region rfl ?_
                refine WL.want rfl (WL1.give rfl (g_lt rfl (.mk rfl rfl) (.mk rfl rfl) (decide_eq_true (by omega))) ?_)
                refine WL.nil ?_
                (refine hK _ _ ?_; clear hK)
                (refine WC.seq ?_; intro K hK)
                refine WC.cond_true (.mk rfl rfl) ?_
                refine WC.skip ?_
                (refine hK _ _ ?_; clear hK)
                (refine WC.seq ?_; intro K hK)
                refine WC.block ?_
                (refine WC.seq ?_; intro K hK)
                refine WC.region rfl ?_
                refine WL.want rfl (WL1.give rfl (g_move rfl (.mk (v := .int _ _) rfl rfl)) ?_)
                refine WL.want rfl (WL1.give rfl (g_indexAddr (sz := 1) rfl (.mk rfl rfl) (.mk rfl rfl) rfl rfl rfl (by omega) (fun w hw => vec_some hw (.tail _ (.tail _ (.tail _ (.tail _ (.head _))))) (by omega))) ?_)
                refine WL.want rfl (WL1.give rfl (g_load rfl (.mk rfl rfl) rfl (rd_vec (by first | ((repeat (first | exact .head _ | apply List.Mem.tail)); done) | fail) hjp)) ?_)
                refine WL.want rfl (WL1.give rfl (g_assign rfl (.mk (v := .int _ _) rfl rfl)) ?_)
                refine WL.want rfl (WL1.give rfl (g_assign rfl (.mk (v := cellPtr _ _) rfl rfl)) ?_)
                refine WL.nil ?_
                (refine hK _ _ ?_; clear hK)
                (refine WC.seq ?_; intro K hK)
                refine WC.quiet rfl (by kernel_rfl) (by decide +kernel) ?_
                refine WQ.want rfl (WQ1.give rfl (g_move rfl (.mk (v := .int _ _) rfl rfl)) ?_)
                refine WQ.want rfl (WQ1.give rfl (g_add rfl (.mk rfl rfl) (.mk rfl rfl) (IntWalk.i64_in _ (by omega))) ?_)
                refine WQ.want rfl (WQ1.give rfl (g_move rfl (.mk (v := .int _ _) rfl rfl)) ?_)
                refine WQ.want rfl (WQ1.give rfl (g_eq rfl (.mk rfl rfl) (.mk rfl rfl) (decide_eq_true (by omega))) ?_)
                refine WQ.want rfl (WQ1.give rfl (g_move rfl (.mk (v := .bool _) rfl rfl)) ?_)
                refine WQ.wantG rfl rfl rfl rfl (WQ1.give rfl (g_move rfl (.mk (v := cellPtr _ _) rfl rfl)) ?_)
                refine WQ.wantG rfl rfl rfl rfl (WQ1.give rfl (g_nilCheck rfl (.mk rfl rfl) (fun _ _ => rfl)) ?_)
                refine WQ.wantG rfl rfl rfl rfl (WQ1.give rfl (g_fieldAddr (off := 1) rfl (.mk rfl rfl) rfl (fun _ _ => rfl)) ?_)
                refine WQ.wantG rfl rfl rfl rfl (WQ1.give rfl (g_load rfl (.mk rfl rfl) rfl (rd_bun (M := js1.map jb) (by first | ((repeat (first | exact .head _ | apply List.Mem.tail)); done) | fail) hjm rfl)) ?_)
                refine WQ.wantG rfl rfl rfl rfl (WQ1.give rfl (g_move rfl (.mk (v := .slice _ _ _) rfl rfl)) ?_)
                refine WQ.wantG rfl rfl rfl rfl (WQ1.give rfl (g_move rfl (.mk (v := .int _ _) rfl rfl)) ?_)
                refine WQ.wantG rfl rfl rfl rfl (WQ1.give rfl (g_indexAddr (sz := 1) rfl (.mk rfl rfl) (.mk rfl rfl) rfl rfl rfl (by omega) (fun _ _ => rfl)) ?_)
                refine WQ.wantG rfl rfl rfl rfl (WQ1.give rfl (g_load rfl (.mk rfl rfl) rfl (rd_vec (by first | ((repeat (first | exact .head _ | apply List.Mem.tail)); done) | fail) hdg1)) ?_)
                refine WQ.wantG rfl rfl rfl rfl (WQ1.give rfl (g_add rfl (.mk rfl rfl) (.mk rfl rfl) (IntWalk.i64_in _ (by omega))) ?_)
                refine WQ.wantG rfl rfl rfl rfl (WQ1.give rfl (g_ne rfl (.mk rfl rfl) (.mk rfl rfl) (decide_eq_false (by omega))) ?_)
                refine WQ.wantG rfl rfl rfl rfl (WQ1.give rfl (g_move rfl (.mk (v := .bool _) rfl rfl)) ?_)
                refine WQ.wantG rfl rfl rfl rfl (WQ1.give rfl (g_move rfl (.mk (v := .bool _) rfl rfl)) ?_)
                refine WQ.wantG rfl rfl rfl rfl (WQ1.give rfl (g_move rfl (.mk (v := cellPtr _ _) rfl rfl)) ?_)
                refine WQ.wantG rfl rfl rfl rfl (WQ1.give rfl (g_nilCheck rfl (.mk rfl rfl) (fun _ _ => rfl)) ?_)
                refine WQ.wantG rfl rfl rfl rfl (WQ1.give rfl (g_fieldAddr (off := 0) rfl (.mk rfl rfl) rfl (fun _ _ => rfl)) ?_)
                refine WQ.wantG rfl rfl rfl rfl (WQ1.give rfl (g_load rfl (.mk rfl rfl) rfl (rd_bun (M := js1.map jb) (by first | ((repeat (first | exact .head _ | apply List.Mem.tail)); done) | fail) hjm rfl)) ?_)
                refine WQ.wantG rfl rfl rfl rfl (WQ1.give rfl (g_eq (p := decide ((nth js1 q).l = 0)) rfl (.mk rfl rfl) (.mk rfl rfl) rfl) ?_)
                refine WQ.wantG rfl rfl rfl rfl (WQ1.give rfl (g_bne (p := false) rfl rfl (.mk rfl rfl) (.mk rfl rfl) (by rw [hdn]; exact bne_self_eq_false _)) ?_)
                refine WQ.wantG rfl rfl rfl rfl (WQ1.give rfl (g_pickF rfl (.mk rfl rfl) (.mk (v := .bool _) rfl rfl)) ?_)
                refine WQ.want rfl (WQ1.give rfl (g_pickT rfl (.mk rfl rfl) (.mk (v := .bool _) rfl rfl)) ?_)
                refine WQ.want rfl (WQ1.give rfl (g_move rfl (.mk (v := .bool _) rfl rfl)) ?_)
                refine WQ.wantG rfl rfl rfl rfl (WQ1.give rfl (g_move rfl (.mk (v := .int _ _) rfl rfl)) ?_)
                refine WQ.wantG rfl rfl rfl rfl (WQ1.give rfl (g_add rfl (.mk rfl rfl) (.mk rfl rfl) (IntWalk.i64_in _ (by omega))) ?_)
                refine WQ.wantG rfl rfl rfl rfl (WQ1.give rfl (g_move rfl (.mk (v := .int _ _) rfl rfl)) ?_)
                refine WQ.wantG rfl rfl rfl rfl (WQ1.give rfl (g_ne rfl (.mk rfl rfl) (.mk rfl rfl) (decide_eq_false (by omega))) ?_)
                refine WQ.wantG rfl rfl rfl rfl (WQ1.give rfl (g_move rfl (.mk (v := .bool _) rfl rfl)) ?_)
                refine WQ.skipG rfl rfl rfl rfl rfl rfl ?_
                refine WQ.skipG rfl rfl rfl rfl rfl rfl ?_
                refine WQ.skipG rfl rfl rfl rfl rfl rfl ?_
                refine WQ.skipG rfl rfl rfl rfl rfl rfl ?_
                refine WQ.skipG rfl rfl rfl rfl rfl rfl ?_
                refine WQ.skipG rfl rfl rfl rfl rfl rfl ?_
                refine WQ.skipG rfl rfl rfl rfl rfl rfl ?_
                refine WQ.skipG rfl rfl rfl rfl rfl rfl ?_
                refine WQ.skipG rfl rfl rfl rfl rfl rfl ?_
                refine WQ.wantG rfl rfl rfl rfl (WQ1.give rfl (g_pickF rfl (.mk rfl rfl) (.mk (v := .bool _) rfl rfl)) ?_)
                refine WQ.want rfl (WQ1.give rfl (g_pickF rfl (.mk rfl rfl) (.mk (v := .bool _) rfl rfl)) ?_)
                refine WQ.nil ?_
                (refine hK _ _ ?_; clear hK)
                refine WC.cond_false (.mk rfl rfl) ?_
                refine WC.skip ?_
                (refine hK _ _ ?_; clear hK)
                refine WC.region rfl ?_
                refine WL.want rfl (WL1.give rfl (g_add rfl (.mk rfl rfl) (.mk rfl rfl) (IntWalk.i64_in _ (by omega))) ?_)
                refine WL.want rfl (WL1.give rfl (g_move rfl (.mk (v := .int _ _) rfl rfl)) ?_)
                refine WL.nil ?_
                exact ⟨q + 1, (by repeat (first | with_reducible exact Out.refl _ _ | refine Out.set rfl ?_ | refine Out.put rfl ?_ | refine Out.sets rfl ?_ | refine Out.hav rfl ?_ | exact Out.refl _ _)), ⟨rfl, trivial⟩, Imp.refl _, by omega, by omega⟩
              · have hd := hno hid
                (refine WC.seq ?_; intro K hK)
                refine WC.region rfl ?_
                refine WL.want rfl (WL1.give rfl (g_lt rfl (.mk rfl rfl) (.mk rfl rfl) (decide_eq_true (by omega))) ?_)
                refine WL.nil ?_
                (refine hK _ _ ?_; clear hK)
                (refine WC.seq ?_; intro K hK)
                refine WC.cond_true (.mk rfl rfl) ?_
                refine WC.skip ?_
                (refine hK _ _ ?_; clear hK)
                (refine WC.seq ?_; intro K hK)
                refine WC.block ?_
                (refine WC.seq ?_; intro K hK)
                refine WC.region rfl ?_
                refine WL.want rfl (WL1.give rfl (g_move rfl (.mk (v := .int _ _) rfl rfl)) ?_)
                refine WL.want rfl (WL1.give rfl (g_indexAddr (sz := 1) rfl (.mk rfl rfl) (.mk rfl rfl) rfl rfl rfl (by omega) (fun w hw => vec_some hw (.tail _ (.tail _ (.tail _ (.tail _ (.head _))))) (by omega))) ?_)
                refine WL.want rfl (WL1.give rfl (g_load rfl (.mk rfl rfl) rfl (rd_vec (by first | ((repeat (first | exact .head _ | apply List.Mem.tail)); done) | fail) hjp)) ?_)
                refine WL.want rfl (WL1.give rfl (g_assign rfl (.mk (v := .int _ _) rfl rfl)) ?_)
                refine WL.want rfl (WL1.give rfl (g_assign rfl (.mk (v := cellPtr _ _) rfl rfl)) ?_)
                refine WL.nil ?_
                (refine hK _ _ ?_; clear hK)
                (refine WC.seq ?_; intro K hK)
                refine WC.quiet rfl (by kernel_rfl) (by decide +kernel) ?_
                refine WQ.want rfl (WQ1.give rfl (g_move rfl (.mk (v := .int _ _) rfl rfl)) ?_)
                refine WQ.want rfl (WQ1.give rfl (g_add rfl (.mk rfl rfl) (.mk rfl rfl) (IntWalk.i64_in _ (by omega))) ?_)
                refine WQ.want rfl (WQ1.give rfl (g_move rfl (.mk (v := .int _ _) rfl rfl)) ?_)
                refine WQ.want rfl (WQ1.give rfl (g_eq rfl (.mk rfl rfl) (.mk rfl rfl) (decide_eq_false (by omega))) ?_)
                refine WQ.want rfl (WQ1.give rfl (g_move rfl (.mk (v := .bool _) rfl rfl)) ?_)
                refine WQ.skipG rfl rfl rfl rfl rfl rfl ?_
                refine WQ.skipG rfl rfl rfl rfl rfl rfl ?_
                refine WQ.skipG rfl rfl rfl rfl rfl rfl ?_
                refine WQ.skipG rfl rfl rfl rfl rfl rfl ?_
                refine WQ.skipG rfl rfl rfl rfl rfl rfl ?_
                refine WQ.skipG rfl rfl rfl rfl rfl rfl ?_
                refine WQ.skipG rfl rfl rfl rfl rfl rfl ?_
                refine WQ.skipG rfl rfl rfl rfl rfl rfl ?_
                refine WQ.skipG rfl rfl rfl rfl rfl rfl ?_
                refine WQ.skipG rfl rfl rfl rfl rfl rfl ?_
                refine WQ.skipG rfl rfl rfl rfl rfl rfl ?_
                refine WQ.skipU rfl rfl rfl rfl rfl ?_
                refine WQ.skipU rfl rfl rfl rfl rfl ?_
                refine WQ.skipU rfl rfl rfl rfl rfl ?_
                refine WQ.skipU rfl rfl rfl rfl rfl ?_
                refine WQ.skipU rfl rfl rfl rfl rfl ?_
                refine WQ.skipU rfl rfl rfl rfl rfl ?_
                refine WQ.skipU rfl rfl rfl rfl rfl ?_
                refine WQ.skipG rfl rfl rfl rfl rfl rfl ?_
                refine WQ.want rfl (WQ1.give rfl (g_pickF rfl (.mk rfl rfl) (.mk (v := .bool _) rfl rfl)) ?_)
                refine WQ.want rfl (WQ1.give rfl (g_move rfl (.mk (v := .bool _) rfl rfl)) ?_)
                refine WQ.wantG rfl rfl rfl rfl (WQ1.give rfl (g_move rfl (.mk (v := .int _ _) rfl rfl)) ?_)
                refine WQ.wantG rfl rfl rfl rfl (WQ1.give rfl (g_add rfl (.mk rfl rfl) (.mk rfl rfl) (IntWalk.i64_in _ (by omega))) ?_)
                refine WQ.wantG rfl rfl rfl rfl (WQ1.give rfl (g_move rfl (.mk (v := .int _ _) rfl rfl)) ?_)
                refine WQ.wantG rfl rfl rfl rfl (WQ1.give rfl (g_ne rfl (.mk rfl rfl) (.mk rfl rfl) (decide_eq_true (by omega))) ?_)
                refine WQ.wantG rfl rfl rfl rfl (WQ1.give rfl (g_move rfl (.mk (v := .bool _) rfl rfl)) ?_)
                refine WQ.wantG rfl rfl rfl rfl (WQ1.give rfl (g_move rfl (.mk (v := cellPtr _ _) rfl rfl)) ?_)
                refine WQ.wantG rfl rfl rfl rfl (WQ1.give rfl (g_nilCheck rfl (.mk rfl rfl) (fun _ _ => rfl)) ?_)
                refine WQ.wantG rfl rfl rfl rfl (WQ1.give rfl (g_fieldAddr (off := 1) rfl (.mk rfl rfl) rfl (fun _ _ => rfl)) ?_)
                refine WQ.wantG rfl rfl rfl rfl (WQ1.give rfl (g_load rfl (.mk rfl rfl) rfl (rd_bun (M := js1.map jb) (by first | ((repeat (first | exact .head _ | apply List.Mem.tail)); done) | fail) hjm rfl)) ?_)
                refine WQ.wantG rfl rfl rfl rfl (WQ1.give rfl (g_move rfl (.mk (v := .slice _ _ _) rfl rfl)) ?_)
                refine WQ.wantG rfl rfl rfl rfl (WQ1.give rfl (g_move rfl (.mk (v := .int _ _) rfl rfl)) ?_)
                refine WQ.wantG rfl rfl rfl rfl (WQ1.give rfl (g_indexAddr (sz := 1) rfl (.mk rfl rfl) (.mk rfl rfl) rfl rfl rfl (by omega) (fun _ _ => rfl)) ?_)
                refine WQ.wantG rfl rfl rfl rfl (WQ1.give rfl (g_load rfl (.mk rfl rfl) rfl (rd_vec (by first | ((repeat (first | exact .head _ | apply List.Mem.tail)); done) | fail) hdg1)) ?_)
                refine WQ.wantG rfl rfl rfl rfl (WQ1.give rfl (g_ne rfl (.mk rfl rfl) (.mk rfl rfl) (decide_eq_false (by omega))) ?_)
                refine WQ.wantG rfl rfl rfl rfl (WQ1.give rfl (g_pickT rfl (.mk rfl rfl) (.mk (v := .bool _) rfl rfl)) ?_)
                refine WQ.want rfl (WQ1.give rfl (g_pickF rfl (.mk rfl rfl) (.mk (v := .bool _) rfl rfl)) ?_)
                refine WQ.nil ?_
                (refine hK _ _ ?_; clear hK)
                refine WC.cond_false (.mk rfl rfl) ?_
                refine WC.skip ?_
                (refine hK _ _ ?_; clear hK)
                refine WC.region rfl ?_
                refine WL.want rfl (WL1.give rfl (g_add rfl (.mk rfl rfl) (.mk rfl rfl) (IntWalk.i64_in _ (by omega))) ?_)
                refine WL.want rfl (WL1.give rfl (g_move rfl (.mk (v := .int _ _) rfl rfl)) ?_)
                refine WL.nil ?_
                exact ⟨q + 1, (by repeat (first | with_reducible exact Out.refl _ _ | refine Out.set rfl ?_ | refine Out.put rfl ?_ | refine Out.sets rfl ?_ | refine Out.hav rfl ?_ | exact Out.refl _ _)), ⟨rfl, trivial⟩, Imp.refl _, by omega, by omega⟩
            · (refine WC.seq ?_; intro K hK)
              refine WC.region rfl ?_
              refine WL.want rfl (WL1.give rfl (g_lt rfl (.mk rfl rfl) (.mk rfl rfl) (decide_eq_false (by omega))) ?_)
              refine WL.nil ?_
              (refine hK _ _ ?_; clear hK)
              (refine WC.seq ?_; intro K hK)
              refine WC.cond_false (.mk rfl rfl) ?_
              refine WC.exit ?_
              (clear hK; refine hK _ _ ?_; clear hK)
              (refine WC.seq ?_; intro K hK)
              refine WC.region rfl ?_
              refine WL.want rfl (WL1.give rfl (g_move rfl (.mk (v := .int _ _) rfl rfl)) ?_)
              refine WL.want rfl (WL1.give rfl (g_lt rfl (.mk rfl rfl) (.mk rfl rfl) (decide_eq_false (by omega))) ?_)
              refine WL.want rfl (WL1.give rfl (g_move rfl (.mk (v := .bool _) rfl rfl)) ?_)
              refine WL.wantG rfl rfl rfl rfl (WL1.give rfl (g_move rfl (.mk (v := .int _ _) rfl rfl)) ?_)
              refine WL.wantG rfl rfl rfl rfl (WL1.give rfl (g_move rfl (.mk (v := .slice _ _ _) rfl rfl)) ?_)
              refine WL.wantG rfl rfl rfl rfl (WL1.give rfl (g_len rfl (.mk rfl rfl) rfl) ?_)
              refine WL.wantG rfl rfl rfl rfl (WL1.give rfl (g_gt rfl (.mk rfl rfl) (.mk rfl rfl) (decide_eq_false (by omega))) ?_)
              refine WL.want rfl (WL1.give rfl (g_pickF rfl (.mk rfl rfl) (.mk (v := .bool _) rfl rfl)) ?_)
              refine WL.nil ?_
              (refine hK _ _ ?_; clear hK)
              refine WC.cond_false (.mk rfl rfl) ?_
              refine WC.skip ?_
              (refine hK _ _ ?_; clear hK)
              refine WC.region rfl ?_
              refine WL.want rfl (WL1.give rfl (g_add rfl (.mk rfl rfl) (.mk rfl rfl) (IntWalk.i64_in _ (by omega))) ?_)
              refine WL.want rfl (WL1.give rfl (g_move rfl (.mk (v := .int _ _) rfl rfl)) ?_)
              refine WL.nil ?_
              rw [← hpt] 
              exact ⟨k + 1, es1, js1, (by repeat (first | with_reducible exact Out.refl _ _ | refine Out.set rfl ?_ | refine Out.put rfl ?_ | refine Out.sets rfl ?_ | refine Out.hav rfl ?_ | exact Out.refl _ _)), ⟨rfl, trivial⟩, Imp.sub (.cons_cons _ (.cons_cons _ (.cons_cons _ (.cons_cons _ (.cons_cons _ (List.nil_sublist _)))))), ⟨by omega, hos⟩, by omega⟩
          · have hD := hF.didF (by omega) (by omega) (by omega)
            have HP : ∀ w', H w (schd S A c bs.length es ++ jbs js :: vec B bs.length cB MT 1 (jptrs js) :: vec (some ⟨b63, 0, none⟩) bs.length bs.length 3 1 (ivs (js.map (·.d))) :: []) w' → Calls Try.prog 14 #[bp S] w' fun e w'' => ∃ u L', e = .returned u ∧ H w L' w'' ∧ u = .tuple #[iv (nth es (fairB es)).id, .bool (decide ((nth js (nth es (fairB es)).q).stp.l = 0)), iv 0] ∧ L' = schd S A c bs.length (fairE es js) ++ jbs (fairJ es js) :: vec B bs.length cB MT 1 (jptrs js) :: vec (some ⟨b63, 0, none⟩) bs.length bs.length 3 1 (ivs (js.map (·.d))) :: [] := fun w' hw' =>
              fair_f (by omega) (by omega) (hF.bnd.bnd (by omega)) hF.ok hw'
            generalize ((nth es (fairB es)).id) = id at HP hD
            generalize (decide ((nth js (nth es (fairB es)).q).stp.l = 0)) = dn at HP hD
            generalize (fairE es js) = es1 at HP hD
            generalize (fairJ es js) = js1 at HP hD
            obtain ⟨hos, ⟨hid1, hid2⟩, hpt, hat⟩ := hD
            have hjl1 := hos.lenj
            (refine WC.seq ?_; intro K hK)
            refine WC.region rfl ?_
            refine WL.want rfl (WL1.give rfl (g_lt rfl (.mk rfl rfl) (.mk rfl rfl) (decide_eq_false (by omega))) ?_)
            refine WL.nil ?_
            (refine hK _ _ ?_; clear hK)
            (refine WC.seq ?_; intro K hK)
            refine WC.cond_false (.mk rfl rfl) ?_
            refine WC.exit ?_
            (clear hK; refine hK _ _ ?_; clear hK)
            (refine WC.seq ?_; intro K hK)
            refine WC.region rfl ?_
            refine WL.want rfl (WL1.give rfl (g_assign rfl (.mk (v := .int _ _) rfl rfl)) ?_)
            refine WL.nil ?_
            (refine hK _ _ ?_; clear hK)
            (refine WC.seq ?_; intro K hK)
            refine WC.region rfl ?_
            refine WL.want rfl (WL1.give rfl (g_assign rfl (.mk (v := .bool _) rfl rfl)) ?_)
            refine WL.nil ?_
            (refine hK _ _ ?_; clear hK)
            (refine WC.seq ?_; intro K hK)
            refine WC.region rfl ?_
            refine WL.want rfl (WL1.give rfl (g_assign rfl (.mk (v := .int _ _) rfl rfl)) ?_)
            refine WL.nil ?_
            (refine hK _ _ ?_; clear hK)
            (refine WC.seq ?_; intro K hK)
            (refine WC.seq ?_; intro K hK)
            refine WC.region rfl ?_
            refine WL.want rfl (WL1.give rfl (g_move rfl (.mk (v := .int _ _) rfl rfl)) ?_)
            refine WL.want rfl (WL1.give rfl (g_rem rfl (.mk rfl rfl) (.mk rfl rfl) (by omega) (Int.tmod_eq_emod_of_nonneg (by omega))) ?_)
            refine WL.want rfl (WL1.give rfl (g_eq rfl (.mk rfl rfl) (.mk rfl rfl) (decide_eq_false (by omega))) ?_)
            refine WL.nil ?_
            (refine hK _ _ ?_; clear hK)
            refine WC.cond_false (.mk rfl rfl) ?_
            refine WC.region rfl ?_
            refine WL.want rfl (WL1.give rfl (g_move rfl (.mk (v := cellPtr _ _) rfl rfl)) ?_)
            (refine WL.want rfl (WL1.callF rfl rfl rfl (.cons (.mk (v := cellPtr _ _) rfl rfl) .nil) (fun w hw => HP w hw) ?_); rintro _ _ ⟨rfl, rfl⟩)
            refine WL.want rfl (WL1.give rfl (g_move rfl (.mk (v := .tuple _) rfl rfl)) ?_)
            refine WL.want rfl (WL1.give rfl (g_extract rfl (.mk rfl rfl) rfl) ?_)
            refine WL.want rfl (WL1.give rfl (g_extract rfl (.mk rfl rfl) rfl) ?_)
            refine WL.want rfl (WL1.give rfl (g_extract rfl (.mk rfl rfl) rfl) ?_)
            refine WL.want rfl (WL1.give rfl (g_assign rfl (.mk (v := .int _ _) rfl rfl)) ?_)
            refine WL.want rfl (WL1.give rfl (g_assign rfl (.mk (v := .bool _) rfl rfl)) ?_)
            refine WL.want rfl (WL1.give rfl (g_assign rfl (.mk (v := .int _ _) rfl rfl)) ?_)
            refine WL.nil ?_
            (refine hK _ _ ?_; clear hK)
            (refine WC.seq ?_; intro K hK)
            (refine WC.seq ?_; intro K hK)
            refine WC.region rfl ?_
            refine WL.want rfl (WL1.give rfl (g_move rfl (.mk (v := .int _ _) rfl rfl)) ?_)
            refine WL.want rfl (WL1.give rfl (g_ne rfl (.mk rfl rfl) (.mk rfl rfl) (decide_eq_false (by omega))) ?_)
            refine WL.nil ?_
            (refine hK _ _ ?_; clear hK)
            refine WC.cond_false (.mk rfl rfl) ?_
            refine WC.skip ?_
            (refine hK _ _ ?_; clear hK)
            (refine WC.seq ?_; intro K hK)
            (refine WC.seq ?_; intro K hK)
            refine WC.region rfl ?_
            refine WL.want rfl (WL1.give rfl (g_move rfl (.mk (v := .slice _ _ _) rfl rfl)) ?_)
            refine WL.want rfl (WL1.give rfl (g_len rfl (.mk rfl rfl) rfl) ?_)
            refine WL.want rfl (WL1.give rfl (g_move rfl (.mk (v := .int _ _) rfl rfl)) ?_)
            refine WL.nil ?_
            (refine hK _ _ ?_; clear hK)
            refine WC.block ?_
            refine WC.loopI (182687704666362215738353287236081811144951201808) (fun q : Nat => [(109, iv q)]) (fun q => schd S A c bs.length es1 ++ jbs js1 :: vec B bs.length cB MT 1 (jptrs js) :: vec (some ⟨b63, 0, none⟩) bs.length bs.length 3 1 (ivs (js.map (·.d))) :: []) (fun q => q ≤ bs.length) (fun q => bs.length - q) 0 ⟨rfl, trivial⟩ (Imp.refl _) (by omega) ?_
            intro q U5 hq
            by_cases hql : q < bs.length
            · obtain ⟨hb1, hy, hno⟩ := hat q hql
              have hjp := jptrs_get (js := js) (k := q) (by omega)
              rw [← hb1] at hjp
              have hjm := job_mem (js := js1) (k := q) (by omega)
              have hdg := ds_get (js := js) (k := q) (by omega)
              have hdg1 : (ivs (js.map (·.d)))[q * 1]? = some (iv (nth js q).d) := by rw [Nat.mul_one]; exact hdg
              have hr0 := hF.rng q hql
              have hr1 := hos.rng q hql
              by_cases hid : id = (q : Int) + 1
              · obtain ⟨hd, hdn⟩ := hy hid
                (refine WC.seq ?_; intro K hK)
                refine WC.region rfl ?_
                refine WL.want rfl (WL1.give rfl (g_lt rfl (.mk rfl rfl) (.mk rfl rfl) (decide_eq_true (by omega))) ?_)
                refine WL.nil ?_
                (refine hK _ _ ?_; clear hK)
                (refine WC.seq ?_; intro K hK)
                refine WC.cond_true (.mk rfl rfl) ?_
                refine WC.skip ?_
                (refine hK _ _ ?_; clear hK)
                (refine WC.seq ?_; intro K hK)
                refine WC.block ?_
                (refine WC.seq ?_; intro K hK)
                refine WC.region rfl ?_
                refine WL.want rfl (WL1.give rfl (g_move rfl (.mk (v := .int _ _) rfl rfl)) ?_)
                refine WL.want rfl (WL1.give rfl (g_indexAddr (sz := 1) rfl (.mk rfl rfl) (.mk rfl rfl) rfl rfl rfl (by omega) (fun w hw => vec_some hw (.tail _ (.tail _ (.tail _ (.tail _ (.head _))))) (by omega))) ?_)
                refine WL.want rfl (WL1.give rfl (g_load rfl (.mk rfl rfl) rfl (rd_vec (by first | ((repeat (first | exact .head _ | apply List.Mem.tail)); done) | fail) hjp)) ?_)
                refine WL.want rfl (WL1.give rfl (g_assign rfl (.mk (v := .int _ _) rfl rfl)) ?_)
                refine WL.want rfl (WL1.give rfl (g_assign rfl (.mk (v := cellPtr _ _) rfl rfl)) ?_)
                refine WL.nil ?_
                (refine hK _ _ ?_; clear hK)
                (refine WC.seq ?_; intro K hK)
                refine WC.quiet rfl (by kernel_rfl) (by decide +kernel) ?_
                refine WQ.want rfl (WQ1.give rfl (g_move rfl (.mk (v := .int _ _) rfl rfl)) ?_)
                refine WQ.want rfl (WQ1.give rfl (g_add rfl (.mk rfl rfl) (.mk rfl rfl) (IntWalk.i64_in _ (by omega))) ?_)
                refine WQ.want rfl (WQ1.give rfl (g_move rfl (.mk (v := .int _ _) rfl rfl)) ?_)
                refine WQ.want rfl (WQ1.give rfl (g_eq rfl (.mk rfl rfl) (.mk rfl rfl) (decide_eq_true (by omega))) ?_)
                refine WQ.want rfl (WQ1.give rfl (g_move rfl (.mk (v := .bool _) rfl rfl)) ?_)
                refine WQ.wantG rfl rfl rfl rfl (WQ1.give rfl (g_move rfl (.mk (v := cellPtr _ _) rfl rfl)) ?_)
                refine WQ.wantG rfl rfl rfl rfl (WQ1.give rfl (g_nilCheck rfl (.mk rfl rfl) (fun _ _ => rfl)) ?_)
                refine WQ.wantG rfl rfl rfl rfl (WQ1.give rfl (g_fieldAddr (off := 1) rfl (.mk rfl rfl) rfl (fun _ _ => rfl)) ?_)
                refine WQ.wantG rfl rfl rfl rfl (WQ1.give rfl (g_load rfl (.mk rfl rfl) rfl (rd_bun (M := js1.map jb) (by first | ((repeat (first | exact .head _ | apply List.Mem.tail)); done) | fail) hjm rfl)) ?_)
                refine WQ.wantG rfl rfl rfl rfl (WQ1.give rfl (g_move rfl (.mk (v := .slice _ _ _) rfl rfl)) ?_)
                refine WQ.wantG rfl rfl rfl rfl (WQ1.give rfl (g_move rfl (.mk (v := .int _ _) rfl rfl)) ?_)
                refine WQ.wantG rfl rfl rfl rfl (WQ1.give rfl (g_indexAddr (sz := 1) rfl (.mk rfl rfl) (.mk rfl rfl) rfl rfl rfl (by omega) (fun _ _ => rfl)) ?_)
                refine WQ.wantG rfl rfl rfl rfl (WQ1.give rfl (g_load rfl (.mk rfl rfl) rfl (rd_vec (by first | ((repeat (first | exact .head _ | apply List.Mem.tail)); done) | fail) hdg1)) ?_)
                refine WQ.wantG rfl rfl rfl rfl (WQ1.give rfl (g_add rfl (.mk rfl rfl) (.mk rfl rfl) (IntWalk.i64_in _ (by omega))) ?_)
                refine WQ.wantG rfl rfl rfl rfl (WQ1.give rfl (g_ne rfl (.mk rfl rfl) (.mk rfl rfl) (decide_eq_false (by omega))) ?_)
                refine WQ.wantG rfl rfl rfl rfl (WQ1.give rfl (g_move rfl (.mk (v := .bool _) rfl rfl)) ?_)
                refine WQ.wantG rfl rfl rfl rfl (WQ1.give rfl (g_move rfl (.mk (v := .bool _) rfl rfl)) ?_)
                refine WQ.wantG rfl rfl rfl rfl (WQ1.give rfl (g_move rfl (.mk (v := cellPtr _ _) rfl rfl)) ?_)
                refine WQ.wantG rfl rfl rfl rfl (WQ1.give rfl (g_nilCheck rfl (.mk rfl rfl) (fun _ _ => rfl)) ?_)
                refine WQ.wantG rfl rfl rfl rfl (WQ1.give rfl (g_fieldAddr (off := 0) rfl (.mk rfl rfl) rfl (fun _ _ => rfl)) ?_)
                refine WQ.wantG rfl rfl rfl rfl (WQ1.give rfl (g_load rfl (.mk rfl rfl) rfl (rd_bun (M := js1.map jb) (by first | ((repeat (first | exact .head _ | apply List.Mem.tail)); done) | fail) hjm rfl)) ?_)
                refine WQ.wantG rfl rfl rfl rfl (WQ1.give rfl (g_eq (p := decide ((nth js1 q).l = 0)) rfl (.mk rfl rfl) (.mk rfl rfl) rfl) ?_)
                refine WQ.wantG rfl rfl rfl rfl (WQ1.give rfl (g_bne (p := false) rfl rfl (.mk rfl rfl) (.mk rfl rfl) (by rw [hdn]; exact bne_self_eq_false _)) ?_)
                refine WQ.wantG rfl rfl rfl rfl (WQ1.give rfl (g_pickF rfl (.mk rfl rfl) (.mk (v := .bool _) rfl rfl)) ?_)
                refine WQ.want rfl (WQ1.give rfl (g_pickT rfl (.mk rfl rfl) (.mk (v := .bool _) rfl rfl)) ?_)
                refine WQ.want rfl (WQ1.give rfl (g_move rfl (.mk (v := .bool _) rfl rfl)) ?_)
                refine WQ.wantG rfl rfl rfl rfl (WQ1.give rfl (g_move rfl (.mk (v := .int _ _) rfl rfl)) ?_)
                refine WQ.wantG rfl rfl rfl rfl (WQ1.give rfl (g_add rfl (.mk rfl rfl) (.mk rfl rfl) (IntWalk.i64_in _ (by omega))) ?_)
                refine WQ.wantG rfl rfl rfl rfl (WQ1.give rfl (g_move rfl (.mk (v := .int _ _) rfl rfl)) ?_)
                refine WQ.wantG rfl rfl rfl rfl (WQ1.give rfl (g_ne rfl (.mk rfl rfl) (.mk rfl rfl) (decide_eq_false (by omega))) ?_)
                refine WQ.wantG rfl rfl rfl rfl (WQ1.give rfl (g_move rfl (.mk (v := .bool _) rfl rfl)) ?_)
                refine WQ.skipG rfl rfl rfl rfl rfl rfl ?_
                refine WQ.skipG rfl rfl rfl rfl rfl rfl ?_
                refine WQ.skipG rfl rfl rfl rfl rfl rfl ?_
                refine WQ.skipG rfl rfl rfl rfl rfl rfl ?_
                refine WQ.skipG rfl rfl rfl rfl rfl rfl ?_
                refine WQ.skipG rfl rfl rfl rfl rfl rfl ?_
                refine WQ.skipG rfl rfl rfl rfl rfl rfl ?_
                refine WQ.skipG rfl rfl rfl rfl rfl rfl ?_
                refine WQ.skipG rfl rfl rfl rfl rfl rfl ?_
                refine WQ.wantG rfl rfl rfl rfl (WQ1.give rfl (g_pickF rfl (.mk rfl rfl) (.mk (v := .bool _) rfl rfl)) ?_)
                refine WQ.want rfl (WQ1.give rfl (g_pickF rfl (.mk rfl rfl) (.mk (v := .bool _) rfl rfl)) ?_)
                refine WQ.nil ?_
                (refine hK _ _ ?_; clear hK)
                refine WC.cond_false (.mk rfl rfl) ?_
                refine WC.skip ?_
                (refine hK _ _ ?_; clear hK)
                refine WC.region rfl ?_
                refine WL.want rfl (WL1.give rfl (g_add rfl (.mk rfl rfl) (.mk rfl rfl) (IntWalk.i64_in _ (by omega))) ?_)
                refine WL.want rfl (WL1.give rfl (g_move rfl (.mk (v := .int _ _) rfl rfl)) ?_)
                refine WL.nil ?_
                exact ⟨q + 1, (by repeat (first | with_reducible exact Out.refl _ _ | refine Out.set rfl ?_ | refine Out.put rfl ?_ | refine Out.sets rfl ?_ | refine Out.hav rfl ?_ | exact Out.refl _ _)), ⟨rfl, trivial⟩, Imp.refl _, by omega, by omega⟩
              · have hd := hno hid
                (refine WC.seq ?_; intro K hK)
                refine WC.region rfl ?_
                refine WL.want rfl (WL1.give rfl (g_lt rfl (.mk rfl rfl) (.mk rfl rfl) (decide_eq_true (by omega))) ?_)
                refine WL.nil ?_
                (refine hK _ _ ?_; clear hK)
                (refine WC.seq ?_; intro K hK)
                refine WC.cond_true (.mk rfl rfl) ?_
                refine WC.skip ?_
                (refine hK _ _ ?_; clear hK)
                (refine WC.seq ?_; intro K hK)
                refine WC.block ?_
                (refine WC.seq ?_; intro K hK)
                refine WC.region rfl ?_
                refine WL.want rfl (WL1.give rfl (g_move rfl (.mk (v := .int _ _) rfl rfl)) ?_)
                refine WL.want rfl (WL1.give rfl (g_indexAddr (sz := 1) rfl (.mk rfl rfl) (.mk rfl rfl) rfl rfl rfl (by omega) (fun w hw => vec_some hw (.tail _ (.tail _ (.tail _ (.tail _ (.head _))))) (by omega))) ?_)
                refine WL.want rfl (WL1.give rfl (g_load rfl (.mk rfl rfl) rfl (rd_vec (by first | ((repeat (first | exact .head _ | apply List.Mem.tail)); done) | fail) hjp)) ?_)
                refine WL.want rfl (WL1.give rfl (g_assign rfl (.mk (v := .int _ _) rfl rfl)) ?_)
                refine WL.want rfl (WL1.give rfl (g_assign rfl (.mk (v := cellPtr _ _) rfl rfl)) ?_)
                refine WL.nil ?_
                (refine hK _ _ ?_; clear hK)
                (refine WC.seq ?_; intro K hK)
                refine WC.quiet rfl (by kernel_rfl) (by decide +kernel) ?_
                refine WQ.want rfl (WQ1.give rfl (g_move rfl (.mk (v := .int _ _) rfl rfl)) ?_)
                refine WQ.want rfl (WQ1.give rfl (g_add rfl (.mk rfl rfl) (.mk rfl rfl) (IntWalk.i64_in _ (by omega))) ?_)
                refine WQ.want rfl (WQ1.give rfl (g_move rfl (.mk (v := .int _ _) rfl rfl)) ?_)
                refine WQ.want rfl (WQ1.give rfl (g_eq rfl (.mk rfl rfl) (.mk rfl rfl) (decide_eq_false (by omega))) ?_)
                refine WQ.want rfl (WQ1.give rfl (g_move rfl (.mk (v := .bool _) rfl rfl)) ?_)
                refine WQ.skipG rfl rfl rfl rfl rfl rfl ?_
                refine WQ.skipG rfl rfl rfl rfl rfl rfl ?_
                refine WQ.skipG rfl rfl rfl rfl rfl rfl ?_
                refine WQ.skipG rfl rfl rfl rfl rfl rfl ?_
                refine WQ.skipG rfl rfl rfl rfl rfl rfl ?_
                refine WQ.skipG rfl rfl rfl rfl rfl rfl ?_
                refine WQ.skipG rfl rfl rfl rfl rfl rfl ?_
                refine WQ.skipG rfl rfl rfl rfl rfl rfl ?_
                refine WQ.skipG rfl rfl rfl rfl rfl rfl ?_
                refine WQ.skipG rfl rfl rfl rfl rfl rfl ?_
                refine WQ.skipG rfl rfl rfl rfl rfl rfl ?_
                refine WQ.skipU rfl rfl rfl rfl rfl ?_
                refine WQ.skipU rfl rfl rfl rfl rfl ?_
                refine WQ.skipU rfl rfl rfl rfl rfl ?_
                refine WQ.skipU rfl rfl rfl rfl rfl ?_
                refine WQ.skipU rfl rfl rfl rfl rfl ?_
                refine WQ.skipU rfl rfl rfl rfl rfl ?_
                refine WQ.skipU rfl rfl rfl rfl rfl ?_
                refine WQ.skipG rfl rfl rfl rfl rfl rfl ?_
                refine WQ.want rfl (WQ1.give rfl (g_pickF rfl (.mk rfl rfl) (.mk (v := .bool _) rfl rfl)) ?_)
                refine WQ.want rfl (WQ1.give rfl (g_move rfl (.mk (v := .bool _) rfl rfl)) ?_)
                refine WQ.wantG rfl rfl rfl rfl (WQ1.give rfl (g_move rfl (.mk (v := .int _ _) rfl rfl)) ?_)
                refine WQ.wantG rfl rfl rfl rfl (WQ1.give rfl (g_add rfl (.mk rfl rfl) (.mk rfl rfl) (IntWalk.i64_in _ (by omega))) ?_)
                refine WQ.wantG rfl rfl rfl rfl (WQ1.give rfl (g_move rfl (.mk (v := .int _ _) rfl rfl)) ?_)
                refine WQ.wantG rfl rfl rfl rfl (WQ1.give rfl (g_ne rfl (.mk rfl rfl) (.mk rfl rfl) (decide_eq_true (by omega))) ?_)
                refine WQ.wantG rfl rfl rfl rfl (WQ1.give rfl (g_move rfl (.mk (v := .bool _) rfl rfl)) ?_)
                refine WQ.wantG rfl rfl rfl rfl (WQ1.give rfl (g_move rfl (.mk (v := cellPtr _ _) rfl rfl)) ?_)
                refine WQ.wantG rfl rfl rfl rfl (WQ1.give rfl (g_nilCheck rfl (.mk rfl rfl) (fun _ _ => rfl)) ?_)
                refine WQ.wantG rfl rfl rfl rfl (WQ1.give rfl (g_fieldAddr (off := 1) rfl (.mk rfl rfl) rfl (fun _ _ => rfl)) ?_)
                refine WQ.wantG rfl rfl rfl rfl (WQ1.give rfl (g_load rfl (.mk rfl rfl) rfl (rd_bun (M := js1.map jb) (by first | ((repeat (first | exact .head _ | apply List.Mem.tail)); done) | fail) hjm rfl)) ?_)
                refine WQ.wantG rfl rfl rfl rfl (WQ1.give rfl (g_move rfl (.mk (v := .slice _ _ _) rfl rfl)) ?_)
                refine WQ.wantG rfl rfl rfl rfl (WQ1.give rfl (g_move rfl (.mk (v := .int _ _) rfl rfl)) ?_)
                refine WQ.wantG rfl rfl rfl rfl (WQ1.give rfl (g_indexAddr (sz := 1) rfl (.mk rfl rfl) (.mk rfl rfl) rfl rfl rfl (by omega) (fun _ _ => rfl)) ?_)
                refine WQ.wantG rfl rfl rfl rfl (WQ1.give rfl (g_load rfl (.mk rfl rfl) rfl (rd_vec (by first | ((repeat (first | exact .head _ | apply List.Mem.tail)); done) | fail) hdg1)) ?_)
                refine WQ.wantG rfl rfl rfl rfl (WQ1.give rfl (g_ne rfl (.mk rfl rfl) (.mk rfl rfl) (decide_eq_false (by omega))) ?_)
                refine WQ.wantG rfl rfl rfl rfl (WQ1.give rfl (g_pickT rfl (.mk rfl rfl) (.mk (v := .bool _) rfl rfl)) ?_)
                refine WQ.want rfl (WQ1.give rfl (g_pickF rfl (.mk rfl rfl) (.mk (v := .bool _) rfl rfl)) ?_)
                refine WQ.nil ?_
                (refine hK _ _ ?_; clear hK)
                refine WC.cond_false (.mk rfl rfl) ?_
                refine WC.skip ?_
                (refine hK _ _ ?_; clear hK)
                refine WC.region rfl ?_
                refine WL.want rfl (WL1.give rfl (g_add rfl (.mk rfl rfl) (.mk rfl rfl) (IntWalk.i64_in _ (by omega))) ?_)
                refine WL.want rfl (WL1.give rfl (g_move rfl (.mk (v := .int _ _) rfl rfl)) ?_)
                refine WL.nil ?_
                exact ⟨q + 1, (by repeat (first | with_reducible exact Out.refl _ _ | refine Out.set rfl ?_ | refine Out.put rfl ?_ | refine Out.sets rfl ?_ | refine Out.hav rfl ?_ | exact Out.refl _ _)), ⟨rfl, trivial⟩, Imp.refl _, by omega, by omega⟩
            · (refine WC.seq ?_; intro K hK)
              refine WC.region rfl ?_
              refine WL.want rfl (WL1.give rfl (g_lt rfl (.mk rfl rfl) (.mk rfl rfl) (decide_eq_false (by omega))) ?_)
              refine WL.nil ?_
              (refine hK _ _ ?_; clear hK)
              (refine WC.seq ?_; intro K hK)
              refine WC.cond_false (.mk rfl rfl) ?_
              refine WC.exit ?_
              (clear hK; refine hK _ _ ?_; clear hK)
              (refine WC.seq ?_; intro K hK)
              refine WC.region rfl ?_
              refine WL.want rfl (WL1.give rfl (g_move rfl (.mk (v := .int _ _) rfl rfl)) ?_)
              refine WL.want rfl (WL1.give rfl (g_lt rfl (.mk rfl rfl) (.mk rfl rfl) (decide_eq_false (by omega))) ?_)
              refine WL.want rfl (WL1.give rfl (g_move rfl (.mk (v := .bool _) rfl rfl)) ?_)
              refine WL.wantG rfl rfl rfl rfl (WL1.give rfl (g_move rfl (.mk (v := .int _ _) rfl rfl)) ?_)
              refine WL.wantG rfl rfl rfl rfl (WL1.give rfl (g_move rfl (.mk (v := .slice _ _ _) rfl rfl)) ?_)
              refine WL.wantG rfl rfl rfl rfl (WL1.give rfl (g_len rfl (.mk rfl rfl) rfl) ?_)
              refine WL.wantG rfl rfl rfl rfl (WL1.give rfl (g_gt rfl (.mk rfl rfl) (.mk rfl rfl) (decide_eq_false (by omega))) ?_)
              refine WL.want rfl (WL1.give rfl (g_pickF rfl (.mk rfl rfl) (.mk (v := .bool _) rfl rfl)) ?_)
              refine WL.nil ?_
              (refine hK _ _ ?_; clear hK)
              refine WC.cond_false (.mk rfl rfl) ?_
              refine WC.skip ?_
              (refine hK _ _ ?_; clear hK)
              refine WC.region rfl ?_
              refine WL.want rfl (WL1.give rfl (g_add rfl (.mk rfl rfl) (.mk rfl rfl) (IntWalk.i64_in _ (by omega))) ?_)
              refine WL.want rfl (WL1.give rfl (g_move rfl (.mk (v := .int _ _) rfl rfl)) ?_)
              refine WL.nil ?_
              rw [← hpt] 
              exact ⟨k + 1, es1, js1, (by repeat (first | with_reducible exact Out.refl _ _ | refine Out.set rfl ?_ | refine Out.put rfl ?_ | refine Out.sets rfl ?_ | refine Out.hav rfl ?_ | exact Out.refl _ _)), ⟨rfl, trivial⟩, Imp.sub (.cons_cons _ (.cons_cons _ (.cons_cons _ (.cons_cons _ (.cons_cons _ (List.nil_sublist _)))))), ⟨by omega, hos⟩, by omega⟩
    · (refine WC.seq ?_; intro K hK)
      refine WC.region rfl ?_
      refine WL.want rfl (WL1.give rfl (g_lt rfl (.mk rfl rfl) (.mk rfl rfl) (decide_eq_false (by omega))) ?_)
      refine WL.nil ?_
      (refine hK _ _ ?_; clear hK)
      (refine WC.seq ?_; intro K hK)
      refine WC.cond_false (.mk rfl rfl) ?_
      refine WC.exit ?_
      (clear hK; refine hK _ _ ?_; clear hK)
      (refine WC.seq ?_; intro K hK)
      refine WC.region rfl ?_
      refine WL.want rfl (WL1.give rfl (g_assign rfl (.mk (v := .bool _) rfl rfl)) ?_)
      refine WL.nil ?_
      (refine hK _ _ ?_; clear hK)
      refine WC.ret ?_
      exact fun w' hw' => ⟨rfl, hw'.1⟩

set_option maxRecDepth 100000 in
theorem lifted (os : Os) (started : os.Started) (H : Type) (enc : TypeId × Value → H) :
    ReturnsInHanded {} Try.checked os 6 .any (Rows.stepsOneSpec.pre6 enc Try.prog Try.f6 Rows.stepsOneRow.domain false) (Rows.stepsOneSpec.post enc Try.prog Try.f6 false true false false) := by
  refine returnsInHanded_of_change (C := Try.checked) own started (by kernel_rfl) Try.func6
    (ChangeSpec.witness6 (enc := enc) (C := Try.checked) false ⟨#[], #[.slice none 0 0, .slice none 0 0], []⟩ 8 (by kernel_rfl) (by kernel_rfl) (by kernel_rfl) (by kernel_rfl)) ?_
  intro W base args ds gs before hval0 hW _ _
  have hval : ∀ (j : Nat) t v, Try.f6.params[j]? = some t → args[j]? = some v → Value.okWide Try.prog W .any base t v := hval0
  have hW' := hW
  obtain ⟨p, q, hA0, hV, rfl, hfz, hnd⟩ := hW
  have hA : DataW.TrodAll enc Try.prog W 0 (fun _ => true) true Try.f6.params.toList args.toList ds p := hA0
  rw [Try.params6] at hA hval
  obtain ⟨v0, vs0, d0, ds0, p0, q0, hargs, rfl, rfl, h0, r0⟩ := trodAll_cons hA
  obtain ⟨v1, vs1, d1, ds1, p1, q1, rfl, rfl, rfl, h1, r1⟩ := trodAll_cons r0
  obtain ⟨rfl, rfl, rfl⟩ := trodAll_nil r1
  obtain rfl : args = #[v0, v1] := by cases args; simp_all
  obtain ⟨bs, bssl, bsr⟩ := open_u8s Try.underlying35 (hval 0 35 v0 rfl rfl) h0
  obtain ⟨ps, pssl, psr⟩ := open_u8s Try.underlying35 (hval 1 35 v1 rfl rfl) h1
  refine (walk (w := W) v0 bs bssl bsr v1 ps pssl psr).mono fun e W' ⟨he, hb⟩ => ?_
  subst he
  exact ⟨_, rfl, law_post laidOut (by kernel_rfl) rfl rfl Try.underlying4 (fun ds h => by match ds, h with | [_, _], _ => rfl) hW' hb⟩

theorem proved : Rows.StepsOneSaid :=
  OpenClaim.holds_of_wide 6 Try.f6 rfl rfl rfl rfl rfl rfl rfl ⟨rfl, rfl, rfl, rfl, rfl⟩ rfl rfl rfl rfl rfl (by kernel_rfl) Try.func6 (by kernel_rfl)
    (of_decide_eq_true (by kernel_rfl)) (by unfold Func.isWrapper; first | (rw [if_pos (by decide +kernel)]; kernel_rfl) | (rw [if_neg (by decide +kernel)]; exact ⟨rfl, rfl⟩))
    (fun os started H enc _ => lifted os started H enc)
end Go.Proofs.Ytbofagfilohhfaa.LStepsOne
