/- WearLevels answers true, whatever the wears and the number of steps: erasing the band that Least returns never raises Spread above one, nor above what it was. No condition. -/
import Derived.Test.YtgpjaocpdfcamaaWear4
import Derived.Test.YtgpjaocpdfcamaaWearAwake
import Derived.Test.YtgpjaocpdfcamaaOpen
namespace Go.Proofs.Ytgpjaocpdfcamaa.LWearLevels
open Go.RowKit Go.WideShapes Go.ChangeShapes Go.ChangeAt

theorem hi_spec (l : List Band) : ∀ k, (∀ i, i < k → wearAt l i ≤ hi l k) ∧ (∃ i, (i < k ∨ i = 0) ∧ hi l k = wearAt l i)
  | 0 => ⟨fun i h => absurd h (by omega), 0, .inr rfl, rfl⟩
  | k + 1 => by
    obtain ⟨h1, i, hi1, hi2⟩ := hi_spec l k
    rw [hi]
    by_cases h : hi l k < wearAt l k
    · rw [if_pos h]
      refine ⟨fun j hj => ?_, k, .inl (by omega), rfl⟩
      rcases Nat.lt_or_ge j k with h2 | h2
      · have := h1 j h2; omega
      · obtain rfl : j = k := by omega
        omega
    · rw [if_neg h]
      refine ⟨fun j hj => ?_, i, by omega, hi2⟩
      rcases Nat.lt_or_ge j k with h2 | h2
      · exact h1 j h2
      · obtain rfl : j = k := by omega
        omega
theorem lo_spec (l : List Band) : ∀ k, (∀ i, i < k → lo l k ≤ wearAt l i) ∧ (∃ i, (i < k ∨ i = 0) ∧ lo l k = wearAt l i)
  | 0 => ⟨fun i h => absurd h (by omega), 0, .inr rfl, rfl⟩
  | k + 1 => by
    obtain ⟨h1, i, hi1, hi2⟩ := lo_spec l k
    rw [lo]
    by_cases h : wearAt l k < lo l k
    · rw [if_pos h]
      refine ⟨fun j hj => ?_, k, .inl (by omega), rfl⟩
      rcases Nat.lt_or_ge j k with h2 | h2
      · have := h1 j h2; omega
      · obtain rfl : j = k := by omega
        omega
    · rw [if_neg h]
      refine ⟨fun j hj => ?_, i, by omega, hi2⟩
      rcases Nat.lt_or_ge j k with h2 | h2
      · exact h1 j h2
      · obtain rfl : j = k := by omega
        omega
theorem levelled {l : List Band} {j : Nat} (hj : j < l.length) (h0 : 0 ≤ wearAt l j) (hr : wearAt l j ≤ 1000) (hmin : ∀ i, i < l.length → wearAt l j ≤ wearAt l i) :
    spreadN (erased l j) ≤ spreadN l ∨ spreadN (erased l j) ≤ 1 := by
  have hw : ∀ i, i < l.length → wearAt (erased l j) i = if i = j then wearAt l j + 1 else wearAt l i := fun i _ => by
    rw [erased_at hj, IntWalk.u64_in _ (by omega)]
  obtain ⟨a1, i1, b1, c1⟩ := hi_spec (erased l j) l.length
  obtain ⟨a2, i2, b2, c2⟩ := lo_spec (erased l j) l.length
  obtain ⟨a3, _⟩ := hi_spec l l.length
  obtain ⟨a4, i4, b4, c4⟩ := lo_spec l l.length
  have h1 : i1 < l.length := by omega
  have h2 : i2 < l.length := by omega
  have h4 : i4 < l.length := by omega
  have w1 := hw i1 h1
  have w2 := hw i2 h2
  have m2 := hmin i2 h2
  have m4 := hmin i4 h4
  have l4 := a4 j hj
  have u1 := a3 i1 h1
  have u3 := a3 j hj
  unfold spreadN
  rw [erased_len, if_neg (by omega), if_neg (by omega)]
  split at w1 <;> split at w2 <;> omega
/-- The bands that are made of the numbers. -/
def mkB (ws : List Int) (k : Nat) : List Band := (ws.take k).map fun x => ⟨0, 0, 0, x % 8⟩
theorem mkB_succ {ws : List Int} {k : Nat} (h : k < ws.length) : bcs (mkB ws (k + 1)) = bcs (mkB ws k) ++ [iv 0, iv 0, uv 0, uv (nth ws k % 8)] := by
  unfold mkB bcs
  rw [List.take_succ_eq_append_getElem h, List.map_append, List.flatMap_append, nth_eq h]
  rfl
theorem mkB_len {ws : List Int} {k : Nat} (h : k ≤ ws.length) : (mkB ws k).length = k := by unfold mkB; simp; omega
/-- What holds of the bands after k steps. -/
def Free (l : List Band) (n k : Nat) : Prop := l.length = n ∧ ∀ b ∈ l, b.used = 0 ∧ 0 ≤ b.wear ∧ b.wear ≤ 7 + k
theorem Free.ok {l : List Band} {n k : Nat} (h : Free l n k) (hk : k ≤ 255) : ∀ b ∈ l, b.ok := fun b hb => by have := h.2 b hb; exact ⟨this.2.1, by omega⟩
theorem free_start {ws : List Int} : Free (mkB ws ws.length) ws.length 0 := ⟨mkB_len (Nat.le_refl _), fun b hb => by
  obtain ⟨x, _, rfl⟩ := List.mem_map.1 hb
  exact ⟨rfl, by show 0 ≤ x % 8; omega, by show x % 8 ≤ _; omega⟩⟩
theorem Free.step {l : List Band} {n k : Nat} (h : Free l n k) (hk : k ≤ 255) (hn : 0 < n) : ∃ j, j < n ∧ leastV l = .tuple #[iv (j : Nat), iv 0] ∧ Free (erased l j) n (k + 1) ∧ (spreadN (erased l j) ≤ spreadN l ∨ spreadN (erased l j) ≤ 1) := by
  have hmem : ∀ i, i < l.length → nth l i ∈ l := fun i hi => by rw [nth_eq hi]; exact List.getElem_mem hi
  rcases best_spec l l.length (Nat.le_refl _) with ⟨_, hall⟩ | ⟨j, hj, hjk, _, hall⟩
  · exact absurd (h.2 _ (hmem 0 (by rw [h.1]; omega))).1 (hall 0 (by rw [h.1]; omega))
  · have hwj := h.2 _ (hmem j hjk)
    have hwn := wearAt_nth hjk
    refine ⟨j, by rw [← h.1]; exact hjk, by rw [leastV, if_neg (by omega), hj], ⟨by rw [erased_len]; exact h.1, fun b hb => ?_⟩, ?_⟩
    · rcases List.mem_or_eq_of_mem_set hb with h1 | rfl
      · have := h.2 b h1; exact ⟨this.1, this.2.1, by omega⟩
      · refine ⟨rfl, ?_, ?_⟩
        · show 0 ≤ IntKind.u64.wrap _; rw [IntWalk.u64_in _ (by omega)]; omega
        · show IntKind.u64.wrap _ ≤ _; rw [IntWalk.u64_in _ (by omega)]; omega
    · refine levelled hjk (by omega) (by omega) fun i hi => ?_
      rw [hwn, wearAt_nth hi]
      have := hall i hi (h.2 _ (hmem i hi)).1
      omega
set_option maxRecDepth 20000 in
set_option maxHeartbeats 1000000 in
theorem walk (w : World) (v : Value) (ws : List Int) (hv : Sl w 1 v ws.length (ws.map u8v)) (hr : ∀ x ∈ ws, 0 ≤ x ∧ x ≤ 255) (st : Int) (h0 : 0 ≤ st) (h1 : st ≤ 255) :
    Calls Try.prog 5 #[v, .int .u8 st] w fun en w' => en = .returned (.bool true) ∧ Below w.heap.size w w' := by
  obtain ⟨A, c, rfl, hc, hm, hs⟩ := hv.open_
  obtain ⟨st, rfl⟩ := Int.eq_ofNat_of_zero_le h0
  by_cases hn : 1 ≤ ws.length ∧ ws.length ≤ 40
  · obtain ⟨hn1, hn2⟩ := hn
    refine calls_wc (args := [.slice A ws.length c, .int .u8 st]) [4] [] Try.func5 rfl Try.ntmps5 rfl rfl rfl rfl (H.refl w) ?_
    (refine WC.seq ?_; intro K hK)
    refine WC.region ?_
    refine WL.want rfl (WL1.give rfl (g_assign rfl (.mk (v := .bool _) rfl rfl)) ?_)
    refine WL.nil ?_
    (refine hK _ _ ?_; clear hK)
    (refine WC.seq ?_; intro K hK)
    (refine WC.seq ?_; intro K hK)
    refine WC.region ?_
    refine WL.want rfl (WL1.callP rfl rfl rfl .nil (fun w hw => awake_any w) ?_)
    refine WL.want rfl (WL1.give rfl (g_notT rfl (.mk rfl rfl)) ?_)
    refine WL.want rfl (WL1.give rfl (g_move rfl (.mk (v := .bool _) rfl rfl)) ?_)
    refine WL.wantG rfl rfl rfl rfl (WL1.give rfl (g_move rfl (.mk (v := .slice _ _ _) rfl rfl)) ?_)
    refine WL.wantG rfl rfl rfl rfl (WL1.give rfl (g_len rfl (.mk rfl rfl) rfl) ?_)
    refine WL.wantG rfl rfl rfl rfl (WL1.give rfl (g_lt rfl (.mk rfl rfl) (.mk rfl rfl) (decide_eq_false (by omega))) ?_)
    refine WL.want rfl (WL1.give rfl (g_pickF rfl (.mk rfl rfl) (.mk (v := .bool _) rfl rfl)) ?_)
    refine WL.want rfl (WL1.give rfl (g_move rfl (.mk (v := .bool _) rfl rfl)) ?_)
    refine WL.wantG rfl rfl rfl rfl (WL1.give rfl (g_move rfl (.mk (v := .slice _ _ _) rfl rfl)) ?_)
    refine WL.wantG rfl rfl rfl rfl (WL1.give rfl (g_len rfl (.mk rfl rfl) rfl) ?_)
    refine WL.wantG rfl rfl rfl rfl (WL1.give rfl (g_gt rfl (.mk rfl rfl) (.mk rfl rfl) (decide_eq_false (by omega))) ?_)
    refine WL.want rfl (WL1.give rfl (g_pickF rfl (.mk rfl rfl) (.mk (v := .bool _) rfl rfl)) ?_)
    refine WL.nil ?_
    (refine hK _ _ ?_; clear hK)
    refine WC.cond_false (.mk rfl rfl) ?_
    refine WC.skip ?_
    (refine hK _ _ ?_; clear hK)
    (refine WC.seq ?_; intro K hK)
    refine WC.region ?_
    refine WL.want rfl (WL1.give rfl (g_assign rfl (.mk (v := .slice _ _ _) rfl rfl)) ?_)
    refine WL.nil ?_
    (refine hK _ _ ?_; clear hK)
    (refine WC.seq ?_; intro K hK)
    (refine WC.seq ?_; intro K hK)
    refine WC.region ?_
    refine WL.want rfl (WL1.give rfl (g_assign rfl (.mk (v := .int _ _) rfl rfl)) ?_)
    refine WL.nil ?_
    (refine hK _ _ ?_; clear hK)
    refine WC.block ?_
    refine WC.nilvec 32 4 ?_
    refine WC.loop3 (2198989701216) (fun (k : Nat) (B : Option Addr) (cB : Nat) => [(5, .slice B k cB), (6, iv k)]) (fun k B cB => [vec B k cB 32 4 (bcs (mkB ws k))]) (fun k _ _ => k ≤ ws.length) (fun k _ _ => ws.length - k) 0 none 0 ⟨rfl, rfl, trivial⟩ (.refl _) (by omega) ?_
    intro k B cB U hk
    by_cases hlt : k < ws.length
    · have hx := hr (nth ws k) (by rw [nth_eq hlt]; exact List.getElem_mem hlt)
      (refine WC.seq ?_; intro K hK)
      (refine WC.seq ?_; intro K hK)
      refine WC.region ?_
      refine WL.want rfl (WL1.give rfl (g_move rfl (.mk (v := .int _ _) rfl rfl)) ?_)
      refine WL.want rfl (WL1.give rfl (g_move rfl (.mk (v := .slice _ _ _) rfl rfl)) ?_)
      refine WL.want rfl (WL1.give rfl (g_len rfl (.mk rfl rfl) rfl) ?_)
      refine WL.want rfl (WL1.give rfl (g_lt rfl (.mk rfl rfl) (.mk rfl rfl) (decide_eq_true (by omega))) ?_)
      refine WL.nil ?_
      (refine hK _ _ ?_; clear hK)
      refine WC.cond_true (.mk rfl rfl) ?_
      refine WC.skip ?_
      (refine hK _ _ ?_; clear hK)
      (refine WC.seq ?_; intro K hK)
      refine WC.block ?_
      refine WC.region ?_
      refine WL.want rfl (WL1.give rfl (g_move rfl (.mk (v := .slice _ _ _) rfl rfl)) ?_)
      refine WL.want rfl (WL1.give rfl (g_move rfl (.mk (v := .slice _ _ _) rfl rfl)) ?_)
      refine WL.want rfl (WL1.give rfl (g_move rfl (.mk (v := .int _ _) rfl rfl)) ?_)
      refine WL.want rfl (WL1.give rfl (g_indexAddr (sz := 1) rfl (.mk rfl rfl) (.mk rfl rfl) rfl rfl rfl (by omega) (fun _ _ => sl_some hs (by omega))) ?_)
      refine WL.want rfl (WL1.give rfl (g_load rfl (.mk rfl rfl) rfl (rd_sl hs (get1 (by omega)))) ?_)
      refine WL.want rfl (WL1.give rfl (g_rem rfl (.mk rfl rfl) (.mk rfl rfl) (by omega) (IntWalk.rem_in _ _ (by omega))) ?_)
      refine WL.want rfl (WL1.give rfl (g_conv rfl rfl rfl (.mk rfl rfl) (IntWalk.u64_in _ (by omega))) ?_)
      refine WL.want rfl (WL1.give rfl (g_build (cs := [_, _, _, _]) rfl rfl rfl rfl (.cons (.mk (v := .int _ _) rfl rfl) .nil) rfl rfl rfl) ?_)
      refine WL.want rfl (WL1.lit (cs := [_, _, _, _]) elB rfl rfl rfl (.cons (.mk (v := .agg _) rfl rfl) .nil) rfl (by simp [Value.cells]) rfl rfl (fun bk => ?_))
      refine WL.want rfl (WL1.append elB rfl rfl (.mk rfl rfl) (.mk rfl rfl) (.tail (.head)) (fun w hw => Sl.of_vec hw (.head _)) (all1 rfl) (by unfold maxLen; omega) (by omega) (fun A' c' => ?_))
      refine WL.want rfl (WL1.give rfl (g_assign rfl (.mk (v := .slice _ _ _) rfl rfl)) ?_)
      refine WL.nil ?_
      (refine hK _ _ ?_; clear hK)
      refine WC.region ?_
      refine WL.want rfl (WL1.give rfl (g_move rfl (.mk (v := .int _ _) rfl rfl)) ?_)
      refine WL.want rfl (WL1.give rfl (g_add rfl (.mk rfl rfl) (.mk rfl rfl) (IntWalk.i64_in _ (by omega))) ?_)
      refine WL.want rfl (WL1.give rfl (g_assign rfl (.mk (v := .int _ _) rfl rfl)) ?_)
      refine WL.nil ?_
      refine ⟨k + 1, A', c', (by repeat (first | with_reducible exact Out.refl _ _ | refine Out.set rfl ?_ | refine Out.put rfl ?_ | refine Out.sets rfl ?_ | refine Out.hav rfl ?_ | exact Out.refl _ _)), ⟨rfl, rfl, trivial⟩, ?_, by omega, by omega⟩
      show List.Sublist [vec A' (k + 1) c' 32 4 (bcs (mkB ws (k + 1)))] _
      rw [mkB_succ hlt]
      exact .cons_cons _ (List.nil_sublist _)
    · obtain rfl : k = ws.length := by omega
      have hF := free_start (ws := ws)
      generalize hl : mkB ws ws.length = l at hF ⊢
      (refine WC.seq ?_; intro K hK)
      (refine WC.seq ?_; intro K hK)
      refine WC.region ?_
      refine WL.want rfl (WL1.give rfl (g_move rfl (.mk (v := .int _ _) rfl rfl)) ?_)
      refine WL.want rfl (WL1.give rfl (g_move rfl (.mk (v := .slice _ _ _) rfl rfl)) ?_)
      refine WL.want rfl (WL1.give rfl (g_len rfl (.mk rfl rfl) rfl) ?_)
      refine WL.want rfl (WL1.give rfl (g_lt rfl (.mk rfl rfl) (.mk rfl rfl) (decide_eq_false (by omega))) ?_)
      refine WL.nil ?_
      (refine hK _ _ ?_; clear hK)
      refine WC.cond_false (.mk rfl rfl) ?_
      refine WC.exit ?_
      (clear hK; refine hK _ _ ?_; clear hK)
      (refine WC.seq ?_; intro K hK)
      refine WC.region ?_
      refine WL.want rfl (WL1.give rfl (g_move rfl (.mk (v := .slice _ _ _) rfl rfl)) ?_)
      refine WL.want rfl (WL1.callP rfl rfl rfl (.cons (.mk (v := .slice _ _ _) rfl rfl) .nil) (fun w hw => spread_any _ l w ⟨(by rw [hF.1]; exact Sl.of_vec hw (.head _)), hF.ok (by omega)⟩ (by have := hF.1; omega)) ?_)
      refine WL.want rfl (WL1.give rfl (g_assign rfl (.mk (v := .int _ _) rfl rfl)) ?_)
      refine WL.nil ?_
      (refine hK _ _ ?_; clear hK)
      (refine WC.seq ?_; intro K hK)
      (refine WC.seq ?_; intro K hK)
      refine WC.region ?_
      refine WL.want rfl (WL1.give rfl (g_assign rfl (.mk (v := .int _ _) rfl rfl)) ?_)
      refine WL.nil ?_
      (refine hK _ _ ?_; clear hK)
      refine WC.block ?_
      refine WC.loop4 (604462909798518494334896) (fun (i : Nat) (B : Option Addr) (cB : Nat) (l : List Band) => [(5, .slice B ws.length cB), (7, uv (spreadN l)), (8, iv i)]) (fun _ B cB l => [vec B ws.length cB 32 4 (bcs l)]) (fun i _ _ l => i ≤ st ∧ Free l ws.length i) (fun i _ _ _ => st - i) 0 B cB l ⟨rfl, rfl, rfl, trivial⟩ (.refl _) ⟨by omega, hF⟩ ?_
      rintro i B2 c2 l2 U2 ⟨hi, hF2⟩
      by_cases hlt2 : i < st
      · obtain ⟨j, hj, hL, hF3, hsp⟩ := hF2.step (by omega) (by omega)
        have hlen2 := hF2.1
        have hle3 : (erased l2 j).length = ws.length := hF3.1
        have hrs := spread_range (hF2.ok (by omega))
        have hrs3 := spread_range (hF3.ok (by omega))
        have HL : ∀ w', H w [vec B2 ws.length c2 32 4 (bcs l2)] w' → Calls Try.prog 9 #[.slice B2 ws.length c2] w' fun e w'' => e = .returned (.tuple #[iv j, iv 0]) ∧ Below w'.heap.size w' w'' := fun w' hw => by
          rw [← hL]; exact least_any _ l2 w' ⟨(by rw [hlen2]; exact Sl.of_vec hw (.head _)), hF2.ok (by omega)⟩ (by omega)
        have HR : ∀ w', H w [vec B2 ws.length c2 32 4 (bcs l2)] w' → Calls Try.prog 15 #[.slice B2 ws.length c2, iv j] w' fun e w'' => ∃ v M, e = .returned v ∧ H w' M w'' ∧ ∃ A' c', v = .tuple #[.slice A' ws.length c', iv 0] ∧ M = [vec A' ws.length c' 32 4 (bcs (erased l2 j))] := fun w' hw => by
          have := reset_e B2 c2 l2 j (by omega) (by omega) w' (by rw [hlen2]; exact Sl.of_vec hw (.head _))
          rw [hlen2] at this
          exact this.mono fun _ _ ⟨v, M, h1, h2, A', c', h3, h4⟩ => ⟨v, M, h1, h2, A', c', by rw [h3, hle3], by rw [h4, hle3]⟩
        (refine WC.seq ?_; intro K hK)
        (refine WC.seq ?_; intro K hK)
        refine WC.region ?_
        refine WL.want rfl (WL1.give rfl (g_move rfl (.mk (v := .int _ _) rfl rfl)) ?_)
        refine WL.want rfl (WL1.give rfl (g_move rfl (.mk (v := .int _ _) rfl rfl)) ?_)
        refine WL.want rfl (WL1.give rfl (g_conv rfl rfl rfl (.mk rfl rfl) (IntWalk.i64_in _ (by omega))) ?_)
        refine WL.want rfl (WL1.give rfl (g_lt rfl (.mk rfl rfl) (.mk rfl rfl) (decide_eq_true (by omega))) ?_)
        refine WL.nil ?_
        (refine hK _ _ ?_; clear hK)
        refine WC.cond_true (.mk rfl rfl) ?_
        refine WC.skip ?_
        (refine hK _ _ ?_; clear hK)
        (refine WC.seq ?_; intro K hK)
        refine WC.block ?_
        (refine WC.seq ?_; intro K hK)
        refine WC.region ?_
        refine WL.want rfl (WL1.give rfl (g_move rfl (.mk (v := .slice _ _ _) rfl rfl)) ?_)
        refine WL.want rfl (WL1.callP rfl rfl rfl (.cons (.mk (v := .slice _ _ _) rfl rfl) .nil) (fun w hw => HL w hw) ?_)
        refine WL.want rfl (WL1.give rfl (g_move rfl (.mk (v := .tuple _) rfl rfl)) ?_)
        refine WL.want rfl (WL1.give rfl (g_extract rfl (.mk rfl rfl) rfl) ?_)
        refine WL.want rfl (WL1.give rfl (g_extract rfl (.mk rfl rfl) rfl) ?_)
        refine WL.want rfl (WL1.give rfl (g_assign rfl (.mk (v := .int _ _) rfl rfl)) ?_)
        refine WL.want rfl (WL1.give rfl (g_assign rfl (.mk (v := .int _ _) rfl rfl)) ?_)
        refine WL.nil ?_
        (refine hK _ _ ?_; clear hK)
        (refine WC.seq ?_; intro K hK)
        (refine WC.seq ?_; intro K hK)
        refine WC.region ?_
        refine WL.want rfl (WL1.give rfl (g_move rfl (.mk (v := .int _ _) rfl rfl)) ?_)
        refine WL.want rfl (WL1.give rfl (g_ne rfl (.mk rfl rfl) (.mk rfl rfl) (decide_eq_false (by omega))) ?_)
        refine WL.want rfl (WL1.give rfl (g_move rfl (.mk (v := .bool _) rfl rfl)) ?_)
        refine WL.wantG rfl rfl rfl rfl (WL1.give rfl (g_move rfl (.mk (v := .int _ _) rfl rfl)) ?_)
        refine WL.wantG rfl rfl rfl rfl (WL1.give rfl (g_lt rfl (.mk rfl rfl) (.mk rfl rfl) (decide_eq_false (by omega))) ?_)
        refine WL.want rfl (WL1.give rfl (g_pickF rfl (.mk rfl rfl) (.mk (v := .bool _) rfl rfl)) ?_)
        refine WL.want rfl (WL1.give rfl (g_move rfl (.mk (v := .bool _) rfl rfl)) ?_)
        refine WL.wantG rfl rfl rfl rfl (WL1.give rfl (g_move rfl (.mk (v := .int _ _) rfl rfl)) ?_)
        refine WL.wantG rfl rfl rfl rfl (WL1.give rfl (g_move rfl (.mk (v := .slice _ _ _) rfl rfl)) ?_)
        refine WL.wantG rfl rfl rfl rfl (WL1.give rfl (g_len rfl (.mk rfl rfl) rfl) ?_)
        refine WL.wantG rfl rfl rfl rfl (WL1.give rfl (g_ge rfl (.mk rfl rfl) (.mk rfl rfl) (decide_eq_false (by omega))) ?_)
        refine WL.want rfl (WL1.give rfl (g_pickF rfl (.mk rfl rfl) (.mk (v := .bool _) rfl rfl)) ?_)
        refine WL.nil ?_
        (refine hK _ _ ?_; clear hK)
        refine WC.cond_false (.mk rfl rfl) ?_
        refine WC.skip ?_
        (refine hK _ _ ?_; clear hK)
        (refine WC.seq ?_; intro K hK)
        refine WC.region ?_
        refine WL.want rfl (WL1.give rfl (g_move rfl (.mk (v := .slice _ _ _) rfl rfl)) ?_)
        refine WL.want rfl (WL1.give rfl (g_move rfl (.mk (v := .int _ _) rfl rfl)) ?_)
        (refine WL.want rfl (WL1.callN rfl rfl rfl (.cons (.mk (v := .slice _ _ _) rfl rfl) (.cons (.mk (v := .int _ _) rfl rfl) .nil)) (fun w hw => HR w hw) ?_); rintro _ _ ⟨A', c', rfl, rfl⟩)
        refine WL.want rfl (WL1.give rfl (g_move rfl (.mk (v := .tuple _) rfl rfl)) ?_)
        refine WL.want rfl (WL1.give rfl (g_extract rfl (.mk rfl rfl) rfl) ?_)
        refine WL.want rfl (WL1.give rfl (g_extract rfl (.mk rfl rfl) rfl) ?_)
        refine WL.want rfl (WL1.give rfl (g_assign rfl (.mk (v := .slice _ _ _) rfl rfl)) ?_)
        refine WL.nil ?_
        (refine hK _ _ ?_; clear hK)
        (refine WC.seq ?_; intro K hK)
        refine WC.region ?_
        refine WL.want rfl (WL1.give rfl (g_move rfl (.mk (v := .slice _ _ _) rfl rfl)) ?_)
        refine WL.want rfl (WL1.callP rfl rfl rfl (.cons (.mk (v := .slice _ _ _) rfl rfl) .nil) (fun w hw => spread_any _ (erased l2 j) w ⟨(by rw [hle3]; exact Sl.of_vec hw (.head _)), hF3.ok (by omega)⟩ (by omega)) ?_)
        refine WL.want rfl (WL1.give rfl (g_assign rfl (.mk (v := .int _ _) rfl rfl)) ?_)
        refine WL.nil ?_
        (refine hK _ _ ?_; clear hK)
        (refine WC.seq ?_; intro K hK)
        (refine WC.seq ?_; intro K hK)
        refine WC.region ?_
        refine WL.want rfl (WL1.give rfl (g_move rfl (.mk (v := .int _ _) rfl rfl)) ?_)
        refine WL.want rfl (WL1.give rfl (g_move rfl (.mk (v := .int _ _) rfl rfl)) ?_)
        refine WL.want rfl (WL1.give rfl (g_max rfl (.mk rfl rfl) (.mk rfl rfl) rfl) ?_)
        refine WL.want rfl (WL1.give rfl (g_gt rfl (.mk rfl rfl) (.mk rfl rfl) (decide_eq_false (by omega))) ?_)
        refine WL.nil ?_
        (refine hK _ _ ?_; clear hK)
        refine WC.cond_false (.mk rfl rfl) ?_
        refine WC.skip ?_
        (refine hK _ _ ?_; clear hK)
        refine WC.region ?_
        refine WL.want rfl (WL1.give rfl (g_move rfl (.mk (v := .int _ _) rfl rfl)) ?_)
        refine WL.want rfl (WL1.give rfl (g_assign rfl (.mk (v := .int _ _) rfl rfl)) ?_)
        refine WL.nil ?_
        (refine hK _ _ ?_; clear hK)
        refine WC.region ?_
        refine WL.want rfl (WL1.give rfl (g_move rfl (.mk (v := .int _ _) rfl rfl)) ?_)
        refine WL.want rfl (WL1.give rfl (g_add rfl (.mk rfl rfl) (.mk rfl rfl) (IntWalk.i64_in _ (by omega))) ?_)
        refine WL.want rfl (WL1.give rfl (g_assign rfl (.mk (v := .int _ _) rfl rfl)) ?_)
        refine WL.nil ?_
        all_goals exact ⟨i + 1, A', c', erased l2 j, (by repeat (first | with_reducible exact Out.refl _ _ | refine Out.set rfl ?_ | refine Out.put rfl ?_ | refine Out.sets rfl ?_ | refine Out.hav rfl ?_ | exact Out.refl _ _)), ⟨rfl, rfl, rfl, trivial⟩, .cons_cons _ (List.nil_sublist _), ⟨by omega, hF3⟩, by omega⟩
      · (refine WC.seq ?_; intro K hK)
        (refine WC.seq ?_; intro K hK)
        refine WC.region ?_
        refine WL.want rfl (WL1.give rfl (g_move rfl (.mk (v := .int _ _) rfl rfl)) ?_)
        refine WL.want rfl (WL1.give rfl (g_move rfl (.mk (v := .int _ _) rfl rfl)) ?_)
        refine WL.want rfl (WL1.give rfl (g_conv rfl rfl rfl (.mk rfl rfl) (IntWalk.i64_in _ (by omega))) ?_)
        refine WL.want rfl (WL1.give rfl (g_lt rfl (.mk rfl rfl) (.mk rfl rfl) (decide_eq_false (by omega))) ?_)
        refine WL.nil ?_
        (refine hK _ _ ?_; clear hK)
        refine WC.cond_false (.mk rfl rfl) ?_
        refine WC.exit ?_
        (clear hK; refine hK _ _ ?_; clear hK)
        (refine WC.seq ?_; intro K hK)
        refine WC.region ?_
        refine WL.want rfl (WL1.give rfl (g_assign rfl (.mk (v := .bool _) rfl rfl)) ?_)
        refine WL.nil ?_
        (refine hK _ _ ?_; clear hK)
        refine WC.ret ?_
        exact fun w' hw' => ⟨rfl, hw'.1⟩
  · refine calls_wc (args := [.slice A ws.length c, .int .u8 st]) [4] [] Try.func5 rfl Try.ntmps5 rfl rfl rfl rfl (H.refl w) ?_
    (refine WC.seq ?_; intro K hK)
    refine WC.region ?_
    refine WL.want rfl (WL1.give rfl (g_assign rfl (.mk (v := .bool _) rfl rfl)) ?_)
    refine WL.nil ?_
    (refine hK _ _ ?_; clear hK)
    (refine WC.seq ?_; intro K hK)
    (refine WC.seq ?_; intro K hK)
    refine WC.region ?_
    refine WL.want rfl (WL1.callP rfl rfl rfl .nil (fun w hw => awake_any w) ?_)
    refine WL.want rfl (WL1.give rfl (g_notT rfl (.mk rfl rfl)) ?_)
    refine WL.want rfl (WL1.give rfl (g_move rfl (.mk (v := .bool _) rfl rfl)) ?_)
    refine WL.wantG rfl rfl rfl rfl (WL1.give rfl (g_move rfl (.mk (v := .slice _ _ _) rfl rfl)) ?_)
    refine WL.wantG rfl rfl rfl rfl (WL1.give rfl (g_len rfl (.mk rfl rfl) rfl) ?_)
    refine WL.wantG rfl rfl rfl rfl (WL1.giveD rfl (g_lt rfl (.mk rfl rfl) (.mk rfl rfl) rfl) (fun _ => ?_) (fun _ => ?_))
    refine WL.want rfl (WL1.give rfl (g_pickF rfl (.mk rfl rfl) (.mk (v := .bool _) rfl rfl)) ?_)
    refine WL.want rfl (WL1.give rfl (g_move rfl (.mk (v := .bool _) rfl rfl)) ?_)
    refine WL.skipG rfl rfl rfl rfl rfl rfl ?_
    refine WL.skipG rfl rfl rfl rfl rfl rfl ?_
    refine WL.skipG rfl rfl rfl rfl rfl rfl ?_
    refine WL.want rfl (WL1.give rfl (g_pickT rfl (.mk rfl rfl) (.mk (v := .bool _) rfl rfl)) ?_)
    refine WL.nil ?_
    (refine hK _ _ ?_; clear hK)
    refine WC.cond_true (.mk rfl rfl) ?_
    (refine WC.seq ?_; intro K hK)
    refine WC.region ?_
    refine WL.want rfl (WL1.callP rfl rfl rfl .nil (fun w hw => awake_any w) ?_)
    refine WL.want rfl (WL1.give rfl (g_assign rfl (.mk (v := .bool _) rfl rfl)) ?_)
    refine WL.nil ?_
    (refine hK _ _ ?_; clear hK)
    refine WC.ret ?_
    rotate_left
    refine WL.want rfl (WL1.give rfl (g_pickF rfl (.mk rfl rfl) (.mk (v := .bool _) rfl rfl)) ?_)
    refine WL.want rfl (WL1.give rfl (g_move rfl (.mk (v := .bool _) rfl rfl)) ?_)
    refine WL.wantG rfl rfl rfl rfl (WL1.give rfl (g_move rfl (.mk (v := .slice _ _ _) rfl rfl)) ?_)
    refine WL.wantG rfl rfl rfl rfl (WL1.give rfl (g_len rfl (.mk rfl rfl) rfl) ?_)
    refine WL.wantG rfl rfl rfl rfl (WL1.give rfl (g_gt rfl (.mk rfl rfl) (.mk rfl rfl) (decide_eq_true (by omega))) ?_)
    refine WL.want rfl (WL1.give rfl (g_pickF rfl (.mk rfl rfl) (.mk (v := .bool _) rfl rfl)) ?_)
    refine WL.nil ?_
    (refine hK _ _ ?_; clear hK)
    refine WC.cond_true (.mk rfl rfl) ?_
    (refine WC.seq ?_; intro K hK)
    refine WC.region ?_
    refine WL.want rfl (WL1.callP rfl rfl rfl .nil (fun w hw => awake_any w) ?_)
    refine WL.want rfl (WL1.give rfl (g_assign rfl (.mk (v := .bool _) rfl rfl)) ?_)
    refine WL.nil ?_
    (refine hK _ _ ?_; clear hK)
    refine WC.ret ?_
    rotate_left
    all_goals exact fun w' hw' => ⟨rfl, hw'.1⟩

set_option maxRecDepth 100000 in
theorem lifted (os : Os) (started : os.Started) (H : Type) (enc : TypeId × Value → H) :
    ReturnsInHanded {} Try.checked os 5 .any (Rows.wearLevelsSpec.pre6 enc Try.prog Try.f5 Rows.wearLevelsRow.domain false) (Rows.wearLevelsSpec.post enc Try.prog Try.f5 false true false false) := by
  refine returnsInHanded_of_change (C := Try.checked) own started (by kernel_rfl) Try.func5
    (ChangeSpec.witness6 (enc := enc) (C := Try.checked) false ⟨#[], #[.slice none 0 0, .int .u8 0], []⟩ 8 (by kernel_rfl) (by kernel_rfl) (by kernel_rfl) (by kernel_rfl)) ?_
  intro W base args ds gs before hval0 hW _ _
  have hval : ∀ (j : Nat) t v, Try.f5.params[j]? = some t → args[j]? = some v → Value.okWide Try.prog W .any base t v := hval0
  have hW' := hW
  obtain ⟨p, q, hA0, hV, rfl, hfz, hnd⟩ := hW
  have hA : DataW.TrodAll enc Try.prog W 0 (fun _ => true) true Try.f5.params.toList args.toList ds p := hA0
  rw [Try.params5] at hA hval
  obtain ⟨v0, vs0, d0, ds0, p0, q0, hargs, rfl, rfl, h0, r0⟩ := trodAll_cons hA
  obtain ⟨v1, vs1, d1, ds1, p1, q1, rfl, rfl, rfl, h1, r1⟩ := trodAll_cons r0
  obtain ⟨rfl, rfl, rfl⟩ := trodAll_nil r1
  obtain rfl : args = #[v0, v1] := by cases args; simp_all
  obtain ⟨ws, wssl, wsr⟩ := open_u8s Try.underlying30 (hval 0 30 v0 rfl rfl) h0
  obtain ⟨st, rfl, stlo, sthi⟩ := open_u8i (hval 1 5 v1 rfl rfl) h1
  refine (walk (w := W) v0 ws wssl wsr st stlo sthi).mono fun e W' ⟨he, hb⟩ => ?_
  subst he
  exact ⟨_, rfl, law_post laidOut (by kernel_rfl) rfl rfl Try.underlying4 (fun ds h => by match ds, h with | [_, _], _ => rfl) hW' hb⟩

theorem proved : Rows.WearLevelsSaid :=
  OpenClaim.holds_of_wide 5 Try.f5 rfl rfl rfl rfl rfl rfl rfl ⟨rfl, rfl, rfl, rfl, rfl⟩ rfl rfl rfl rfl rfl (by kernel_rfl) Try.func5 (by kernel_rfl)
    (of_decide_eq_true (by kernel_rfl)) (by unfold Func.isWrapper; first | (rw [if_pos (by decide +kernel)]; kernel_rfl) | (rw [if_neg (by decide +kernel)]; exact ⟨rfl, rfl⟩))
    (fun os started H enc _ => lifted os started H enc)
end Go.Proofs.Ytgpjaocpdfcamaa.LWearLevels
