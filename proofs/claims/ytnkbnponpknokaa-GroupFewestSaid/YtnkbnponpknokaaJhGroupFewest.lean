/- GroupFewest answers true, whatever the width, the touched and the bad pieces: the pieces to read are not bad, and no method that is possible reads fewer ones. No condition. -/
import Derived.Test.YtnkbnponpknokaaJh4
namespace Go.Proofs.Ytnkbnponpknokaa.LGroupFewest
open Go.RowKit Go.WideShapes Go.ChangeShapes Go.ChangeAt
attribute [local irreducible] Calls

theorem numL_sat (p : Nat → Bool) : ∀ n k, k < (numL p n).length → p (nth (numL p n) k) = true
  | 0, k, h => absurd h (Nat.not_lt_zero _)
  | n + 1, k, h => by
    cases hp : p n with
    | false => rw [numL_F hp] at h ⊢; exact numL_sat p n k h
    | true =>
      rw [numL_T hp] at h ⊢
      rw [List.length_append, List.length_cons, List.length_nil] at h
      by_cases hk : k < (numL p n).length
      · rw [show nth (numL p n ++ [n]) k = nth (numL p n) k from by unfold nth; simp [List.getD_eq_getElem?_getD, List.getElem?_append_left hk]]
        exact numL_sat p n k hk
      · rw [show nth (numL p n ++ [n]) k = n from by unfold nth; rw [List.getD_eq_getElem?_getD, List.getElem?_append_right (by omega), show k - (numL p n).length = 0 from by omega]; rfl]
        exact hp
theorem goodL_all {l : List Nat} {bs : List Bool} (h : goodL l bs = true) : ∀ k, k < l.length → nth bs (nth l k) = false := by
  unfold goodL at h
  refine fnd_none (p := fun k => nth bs (nth l k)) ?_
  cases hf : fnd (fun k => nth bs (nth l k)) l.length with
  | none => rfl
  | some j => rw [hf] at h; exact absurd h Bool.false_ne_true
structure Fine (N : Nat) (bs : List Bool) (a b R : List Nat) (ka kb : Bool) : Prop where
  mem : ∀ k, k < R.length → nth R k < N + 3 ∧ nth bs (nth R k) = false
  few : R.length ≤ N
  a : ka = true → R.length ≤ a.length
  b : kb = true → R.length ≤ b.length
theorem nth_take' {l : List Nat} {n k : Nat} (h : k < n) : nth (l.take n) k = nth l k := by
  unfold nth; simp [List.getD_eq_getElem?_getD, List.getElem?_take, h]
theorem fine_pick {N : Nat} {bs : List Bool} {a b g : List Nat} {ka kb : Bool} (hb : b.length ≤ N) (hg : N ≤ g.length) (ma : ∀ k, k < a.length → nth a k < N + 3) (mb : ∀ k, k < b.length → nth b k < N + 3) (mg : ∀ k, k < g.length → nth g k < N + 3)
    (ga : ka = true → ∀ k, k < a.length → nth bs (nth a k) = false) (gb : kb = true → ∀ k, k < b.length → nth bs (nth b k) = false) (gg : ∀ k, k < g.length → nth bs (nth g k) = false) : Fine N bs a b (pick3 a b g ka kb N) ka kb := by
  have ht : (g.take N).length = N := by rw [List.length_take]; omega
  have mt : ∀ k, k < (g.take N).length → nth (g.take N) k < N + 3 ∧ nth bs (nth (g.take N) k) = false := fun k hk => by
    rw [ht] at hk; rw [nth_take' hk]; exact ⟨mg k (by omega), gg k (by omega)⟩
  unfold pick3
  cases ka with
  | false =>
    cases kb with
    | false => exact ⟨mt, by show (g.take N).length ≤ N; omega, fun h => absurd h Bool.false_ne_true, fun h => absurd h Bool.false_ne_true⟩
    | true => exact ⟨fun k hk => ⟨mb k hk, gb rfl k hk⟩, hb, fun h => absurd h Bool.false_ne_true, fun _ => Nat.le_refl _⟩
  | true =>
    cases kb with
    | false =>
      by_cases h : a.length ≤ N
      · rw [decide_eq_true h]
        exact ⟨fun k hk => ⟨ma k hk, ga rfl k hk⟩, h, fun _ => Nat.le_refl _, fun h => absurd h Bool.false_ne_true⟩
      · rw [decide_eq_false h]
        exact ⟨mt, by show (g.take N).length ≤ N; omega, fun _ => by show (g.take N).length ≤ _; omega, fun h => absurd h Bool.false_ne_true⟩
    | true =>
      by_cases h : a.length ≤ b.length
      · rw [decide_eq_true h, decide_eq_true (by omega : a.length ≤ N)]
        exact ⟨fun k hk => ⟨ma k hk, ga rfl k hk⟩, by show a.length ≤ N; omega, fun _ => Nat.le_refl _, fun _ => h⟩
      · rw [decide_eq_false h]
        exact ⟨fun k hk => ⟨mb k hk, gb rfl k hk⟩, hb, fun _ => by show b.length ≤ a.length; omega, fun _ => Nat.le_refl _⟩
theorem fine_ref {N : Nat} {T : List Int} {bs : List Bool} (hg : N ≤ (numL (gP bs) (N + 3)).length) : Fine N bs (numL (dP (N + 3) T) (N + 3)) (numL (rP (N + 3) T) (N + 3)) (refL N T bs) (goodL (numL (dP (N + 3) T) (N + 3)) bs) (goodL (numL (rP (N + 3) T) (N + 3)) bs) :=
  fine_pick (rest_le N T) hg (numL_lt _ _) (numL_lt _ _) (numL_lt _ _) (fun h => goodL_all h) (fun h => goodL_all h) fun k hk => by
    have := numL_sat (gP bs) (N + 3) k hk
    unfold gP at this
    cases h : nth bs (nth (numL (gP bs) (N + 3)) k) with
    | false => rfl
    | true => rw [show nth bs (nth (numL (fun i => !nth bs i) (N + 3)) k) = true from h] at this; exact absurd this Bool.false_ne_true
theorem gP_eq (bs : List Bool) : gP bs = fun i => !nth bs i := rfl
theorem both (bs : List Bool) (n : Nat) : (numL (fun i => nth bs i) n).length + (numL (gP bs) n).length = n := numL_both _ n
set_option maxRecDepth 20000 in
set_option maxHeartbeats 2000000 in
theorem walk (w : World) (m : Int) (_mlo : -9223372036854775808 ≤ m) (_mhi : m ≤ 9223372036854775807) (vt : Value) (T : List Int) (ht : Sl w 1 vt T.length (ivs T)) (_tr : ∀ x ∈ T, (Lit.int .i64 x).wf = true) (vb : Value) (bs : List Bool) (hb : Sl w 1 vb bs.length (bls bs)) :
    Calls Try.prog 6 #[iv m, vt, vb] w fun en w' => en = .returned (.bool true) ∧ Below w.heap.size w w' := by
  obtain ⟨A, c, rfl, hc, hmt, hs⟩ := ht.open_
  obtain ⟨B, d, rfl, hcd, hmb, hsb⟩ := hb.open_
  unfold maxLen at hmt hmb
  · skip
    by_cases hw0 : (4 ≤ m ∧ m ≤ 16) ∧ (bs.length : Int) = m
    · obtain ⟨⟨h4, h16⟩, rfl⟩ := hw0
      obtain ⟨N, hN⟩ : ∃ N, bs.length = N + 3 := ⟨bs.length - 3, by omega⟩
      have hbo := both bs (N + 3)
      rcases okT_or_out bs.length T with hT | ⟨j, hj⟩
      · by_cases hg : N ≤ (numL (gP bs) (N + 3)).length
        · by_cases h0 : T.length = 0
          · have hr1 := fun w' hb => reads_none (w := w') (r := 0) hN (by omega) (by omega) (hs.below (w' := w') hb) (hsb.below (w' := w') hb) hT (.inr ⟨h0, by rw [hN]; omega, rfl⟩)
            have hr2 := fun w' hb => rreads_none (w := w') (r := 0) hN (by omega) (by omega) (hs.below (w' := w') hb) (hsb.below (w' := w') hb) hT (.inr ⟨h0, hg, rfl⟩)
            refine calls_wc (args := [iv bs.length, .slice A T.length c, .slice B bs.length d]) [6] [] Try.func6 rfl Try.ntmps6 rfl rfl rfl rfl (H.refl _) ?_
            (refine WC.seq ?_; intro K hK)
            refine WC.region rfl ?_
            refine WL.want rfl (WL1.give rfl (g_assign rfl (.mk (v := .bool _) rfl rfl)) ?_)
            refine WL.nil ?_
            (refine hK _ _ ?_; clear hK)
            (refine WC.seq ?_; intro K hK)
            (refine WC.seq ?_; intro K hK)
            refine WC.region rfl ?_
            refine WL.want rfl (WL1.callP rfl rfl rfl .nil (fun w hw => awake_e w) ?_)
            refine WL.want rfl (WL1.give rfl (g_notT rfl (.mk rfl rfl)) ?_)
            refine WL.nil ?_
            (refine hK _ _ ?_; clear hK)
            refine WC.cond_false (.mk rfl rfl) ?_
            refine WC.skip ?_
            (refine hK _ _ ?_; clear hK)
            (refine WC.seq ?_; intro K hK)
            refine WC.region rfl ?_
            refine WL.want rfl (WL1.give rfl (g_move rfl (.mk (v := .int _ _) rfl rfl)) ?_)
            refine WL.want rfl (WL1.give rfl (g_move rfl (.mk (v := .slice _ _ _) rfl rfl)) ?_)
            refine WL.want rfl (WL1.give rfl (g_move rfl (.mk (v := .slice _ _ _) rfl rfl)) ?_)
            refine WL.want rfl (WL1.callP rfl rfl rfl (.cons (.mk (v := .int _ _) rfl rfl) (.cons (.mk (v := .slice _ _ _) rfl rfl) (.cons (.mk (v := .slice _ _ _) rfl rfl) .nil))) (fun w hw => hr1 w hw.1) ?_)
            refine WL.want rfl (WL1.give rfl (g_move rfl (.mk (v := .tuple _) rfl rfl)) ?_)
            refine WL.want rfl (WL1.give rfl (g_extract rfl (.mk rfl rfl) rfl) ?_)
            refine WL.want rfl (WL1.give rfl (g_extract rfl (.mk rfl rfl) rfl) ?_)
            refine WL.want rfl (WL1.give rfl (g_assign rfl (.mk (v := .slice _ _ _) rfl rfl)) ?_)
            refine WL.want rfl (WL1.give rfl (g_assign rfl (.mk (v := .int _ _) rfl rfl)) ?_)
            refine WL.nil ?_
            (refine hK _ _ ?_; clear hK)
            (refine WC.seq ?_; intro K hK)
            (refine WC.seq ?_; intro K hK)
            refine WC.region rfl ?_
            refine WL.want rfl (WL1.give rfl (g_move rfl (.mk (v := .int _ _) rfl rfl)) ?_)
            refine WL.want rfl (WL1.give rfl (g_move rfl (.mk (v := .slice _ _ _) rfl rfl)) ?_)
            refine WL.want rfl (WL1.give rfl (g_move rfl (.mk (v := .slice _ _ _) rfl rfl)) ?_)
            refine WL.want rfl (WL1.callP rfl rfl rfl (.cons (.mk (v := .int _ _) rfl rfl) (.cons (.mk (v := .slice _ _ _) rfl rfl) (.cons (.mk (v := .slice _ _ _) rfl rfl) .nil))) (fun w hw => hr2 w hw.1) ?_)
            refine WL.want rfl (WL1.give rfl (g_move rfl (.mk (v := .tuple _) rfl rfl)) ?_)
            refine WL.want rfl (WL1.give rfl (g_extract rfl (.mk rfl rfl) rfl) ?_)
            refine WL.want rfl (WL1.give rfl (g_extract rfl (.mk rfl rfl) rfl) ?_)
            refine WL.want rfl (WL1.give rfl (g_assign rfl (.mk (v := .slice _ _ _) rfl rfl)) ?_)
            refine WL.want rfl (WL1.give rfl (g_assign rfl (.mk (v := .int _ _) rfl rfl)) ?_)
            refine WL.nil ?_
            (refine hK _ _ ?_; clear hK)
            (refine WC.seq ?_; intro K hK)
            refine WC.region rfl ?_
            refine WL.want rfl (WL1.give rfl (g_move rfl (.mk (v := .int _ _) rfl rfl)) ?_)
            refine WL.want rfl (WL1.give rfl (g_ne rfl (.mk rfl rfl) (.mk rfl rfl) (decide_eq_false (by omega))) ?_)
            refine WL.want rfl (WL1.give rfl (g_move rfl (.mk (v := .bool _) rfl rfl)) ?_)
            refine WL.wantG rfl rfl rfl rfl (WL1.give rfl (g_move rfl (.mk (v := .slice _ _ _) rfl rfl)) ?_)
            refine WL.wantG rfl rfl rfl rfl (WL1.give rfl (g_len rfl (.mk rfl rfl) rfl) ?_)
            refine WL.wantG rfl rfl rfl rfl (WL1.give rfl (g_eq rfl (.mk rfl rfl) (.mk rfl rfl) (decide_eq_true (by omega))) ?_)
            refine WL.want rfl (WL1.give rfl (g_pickF rfl (.mk rfl rfl) (.mk (v := .bool _) rfl rfl)) ?_)
            refine WL.nil ?_
            (refine hK _ _ ?_; clear hK)
            refine WC.cond_true (.mk rfl rfl) ?_
            (refine WC.seq ?_; intro K hK)
            refine WC.region rfl ?_
            refine WL.want rfl (WL1.give rfl (g_move rfl (.mk (v := .int _ _) rfl rfl)) ?_)
            refine WL.want rfl (WL1.give rfl (g_move rfl (.mk (v := .int _ _) rfl rfl)) ?_)
            refine WL.want rfl (WL1.give rfl (g_eq rfl (.mk rfl rfl) (.mk rfl rfl) (decide_eq_true (by omega))) ?_)
            refine WL.want rfl (WL1.give rfl (g_move rfl (.mk (v := .bool _) rfl rfl)) ?_)
            refine WL.wantG rfl rfl rfl rfl (WL1.give rfl (g_move rfl (.mk (v := .slice _ _ _) rfl rfl)) ?_)
            refine WL.wantG rfl rfl rfl rfl (WL1.give rfl (g_len rfl (.mk rfl rfl) rfl) ?_)
            refine WL.wantG rfl rfl rfl rfl (WL1.give rfl (g_eq rfl (.mk rfl rfl) (.mk rfl rfl) (decide_eq_true (by omega))) ?_)
            refine WL.want rfl (WL1.give rfl (g_pickT rfl (.mk rfl rfl) (.mk (v := .bool _) rfl rfl)) ?_)
            refine WL.want rfl (WL1.give rfl (g_assign rfl (.mk (v := .bool _) rfl rfl)) ?_)
            refine WL.nil ?_
            (refine hK _ _ ?_; clear hK)
            refine WC.ret ?_
            exact fun w' hw' => ⟨rfl, hw'.1⟩
          · have hr1 := fun w' hb => reads_k (w := w') (zm := (bs.length : Int)) (out := refL N T bs) rfl rfl rfl hN (by omega) (by omega) hT (by omega) (by have := okT_short hT; omega) (by rw [hN]; omega) (by rw [hN]; exact hg) (o3_ref hN hg) (hs.below (w' := w') hb) (hsb.below (w' := w') hb)
            have hr2 := fun w' hb => rreads_n (w := w') hN (by omega) (by omega) (hs.below (w' := w') hb) (hsb.below (w' := w') hb) hT (by omega) hg
            have hT3 := okT_short hT
            have hF := fine_ref (T := T) hg
            have hrd := fun w' hb => rdelta_n (w := w') (N := N) (by omega) (by omega) (hs.below (w' := w') hb)
            have hrr := fun w' hb => rrest_n (w := w') (N := N) (by omega) (by omega) (hs.below (w' := w') hb)
            obtain ⟨R, hR⟩ : ∃ R, R = refL N T bs := ⟨_, rfl⟩
            obtain ⟨a, ha⟩ : ∃ a, a = numL (dP (N + 3) T) (N + 3) := ⟨_, rfl⟩
            obtain ⟨b, hb⟩ : ∃ b, b = numL (rP (N + 3) T) (N + 3) := ⟨_, rfl⟩
            have hla := numL_lt (dP (N + 3) T) (N + 3)
            have hlb := numL_lt (rP (N + 3) T) (N + 3)
            rw [← hR] at hr1 hr2 hF
            rw [← ha] at hla hrd hF
            rw [← hb] at hlb hrr hF
            rw [← hN] at hla hlb hrd hrr
            have hca := fun w' v hv hb => clean_e v (.slice B bs.length d) a bs w' hv (hsb.below (w' := w') hb) hla
            have hcb := fun w' v hv hb' => clean_e v (.slice B bs.length d) b bs w' hv (hsb.below (w' := w') hb') hlb
            obtain ⟨ka, hka⟩ : ∃ k, k = goodL a bs := ⟨_, rfl⟩
            obtain ⟨kb, hkb⟩ : ∃ k, k = goodL b bs := ⟨_, rfl⟩
            rw [← hka] at hca hF
            rw [← hkb] at hcb hF
            have hsubN : IntKind.i64.wrap ((bs.length : Int) - 3) = (N : Int) := by rw [IntWalk.i64_in _ (by omega)]; omega
            obtain ⟨m1, m2, m3, m4⟩ := hF
            clear hR hT hg hbo ha hb hla hlb hka hkb
            refine calls_wc (args := [iv bs.length, .slice A T.length c, .slice B bs.length d]) [6] [] Try.func6 rfl Try.ntmps6 rfl rfl rfl rfl (H.refl _) ?_
            (refine WC.seq ?_; intro K hK)
            refine WC.region rfl ?_
            refine WL.want rfl (WL1.give rfl (g_assign rfl (.mk (v := .bool _) rfl rfl)) ?_)
            refine WL.nil ?_
            (refine hK _ _ ?_; clear hK)
            (refine WC.seq ?_; intro K hK)
            (refine WC.seq ?_; intro K hK)
            refine WC.region rfl ?_
            refine WL.want rfl (WL1.callP rfl rfl rfl .nil (fun w hw => awake_e w) ?_)
            refine WL.want rfl (WL1.give rfl (g_notT rfl (.mk rfl rfl)) ?_)
            refine WL.nil ?_
            (refine hK _ _ ?_; clear hK)
            refine WC.cond_false (.mk rfl rfl) ?_
            refine WC.skip ?_
            (refine hK _ _ ?_; clear hK)
            (refine WC.seq ?_; intro K hK)
            refine WC.region rfl ?_
            refine WL.want rfl (WL1.give rfl (g_move rfl (.mk (v := .int _ _) rfl rfl)) ?_)
            refine WL.want rfl (WL1.give rfl (g_move rfl (.mk (v := .slice _ _ _) rfl rfl)) ?_)
            refine WL.want rfl (WL1.give rfl (g_move rfl (.mk (v := .slice _ _ _) rfl rfl)) ?_)
            (refine WL.want rfl (WL1.callN rfl rfl rfl (.cons (.mk (v := .int _ _) rfl rfl) (.cons (.mk (v := .slice _ _ _) rfl rfl) (.cons (.mk (v := .slice _ _ _) rfl rfl) .nil))) (fun w hw => hr1 w hw.1) ?_); rintro _ _ ⟨A1, c1, rfl, rfl⟩)
            refine WL.want rfl (WL1.give rfl (g_move rfl (.mk (v := .tuple _) rfl rfl)) ?_)
            refine WL.want rfl (WL1.give rfl (g_extract rfl (.mk rfl rfl) rfl) ?_)
            refine WL.want rfl (WL1.give rfl (g_extract rfl (.mk rfl rfl) rfl) ?_)
            refine WL.want rfl (WL1.give rfl (g_assign rfl (.mk (v := .slice _ _ _) rfl rfl)) ?_)
            refine WL.want rfl (WL1.give rfl (g_assign rfl (.mk (v := .int _ _) rfl rfl)) ?_)
            refine WL.nil ?_
            (refine hK _ _ ?_; clear hK)
            (refine WC.seq ?_; intro K hK)
            (refine WC.seq ?_; intro K hK)
            refine WC.region rfl ?_
            refine WL.want rfl (WL1.give rfl (g_move rfl (.mk (v := .int _ _) rfl rfl)) ?_)
            refine WL.want rfl (WL1.give rfl (g_move rfl (.mk (v := .slice _ _ _) rfl rfl)) ?_)
            refine WL.want rfl (WL1.give rfl (g_move rfl (.mk (v := .slice _ _ _) rfl rfl)) ?_)
            (refine WL.want rfl (WL1.callN rfl rfl rfl (.cons (.mk (v := .int _ _) rfl rfl) (.cons (.mk (v := .slice _ _ _) rfl rfl) (.cons (.mk (v := .slice _ _ _) rfl rfl) .nil))) (fun w hw => hr2 w hw.1) ?_); rintro _ _ ⟨A2, c2, rfl, rfl⟩)
            refine WL.want rfl (WL1.give rfl (g_move rfl (.mk (v := .tuple _) rfl rfl)) ?_)
            refine WL.want rfl (WL1.give rfl (g_extract rfl (.mk rfl rfl) rfl) ?_)
            refine WL.want rfl (WL1.give rfl (g_extract rfl (.mk rfl rfl) rfl) ?_)
            refine WL.want rfl (WL1.give rfl (g_assign rfl (.mk (v := .slice _ _ _) rfl rfl)) ?_)
            refine WL.want rfl (WL1.give rfl (g_assign rfl (.mk (v := .int _ _) rfl rfl)) ?_)
            refine WL.nil ?_
            (refine hK _ _ ?_; clear hK)
            (refine WC.seq ?_; intro K hK)
            refine WC.region rfl ?_
            refine WL.want rfl (WL1.give rfl (g_move rfl (.mk (v := .int _ _) rfl rfl)) ?_)
            refine WL.want rfl (WL1.give rfl (g_ne rfl (.mk rfl rfl) (.mk rfl rfl) (decide_eq_false (by omega))) ?_)
            refine WL.want rfl (WL1.give rfl (g_move rfl (.mk (v := .bool _) rfl rfl)) ?_)
            refine WL.wantG rfl rfl rfl rfl (WL1.give rfl (g_move rfl (.mk (v := .slice _ _ _) rfl rfl)) ?_)
            refine WL.wantG rfl rfl rfl rfl (WL1.give rfl (g_len rfl (.mk rfl rfl) rfl) ?_)
            refine WL.wantG rfl rfl rfl rfl (WL1.give rfl (g_eq rfl (.mk rfl rfl) (.mk rfl rfl) (decide_eq_false (by omega))) ?_)
            refine WL.want rfl (WL1.give rfl (g_pickF rfl (.mk rfl rfl) (.mk (v := .bool _) rfl rfl)) ?_)
            refine WL.nil ?_
            (refine hK _ _ ?_; clear hK)
            refine WC.cond_false (.mk rfl rfl) ?_
            refine WC.skip ?_
            (refine hK _ _ ?_; clear hK)
            (refine WC.seq ?_; intro K hK)
            (refine WC.seq ?_; intro K hK)
            refine WC.region rfl ?_
            refine WL.want rfl (WL1.give rfl (g_move rfl (.mk (v := .int _ _) rfl rfl)) ?_)
            refine WL.want rfl (WL1.give rfl (g_ne rfl (.mk rfl rfl) (.mk rfl rfl) (decide_eq_false (by omega))) ?_)
            refine WL.nil ?_
            (refine hK _ _ ?_; clear hK)
            refine WC.cond_false (.mk rfl rfl) ?_
            refine WC.skip ?_
            (refine hK _ _ ?_; clear hK)
            (refine WC.seq ?_; intro K hK)
            (refine WC.seq ?_; intro K hK)
            refine WC.region rfl ?_
            refine WL.want rfl (WL1.give rfl (g_move rfl (.mk (v := .slice _ _ _) rfl rfl)) ?_)
            refine WL.want rfl (WL1.give rfl (g_len rfl (.mk rfl rfl) rfl) ?_)
            refine WL.want rfl (WL1.give rfl (g_move rfl (.mk (v := .int _ _) rfl rfl)) ?_)
            refine WL.nil ?_
            (refine hK _ _ ?_; clear hK)
            refine WC.block ?_
            refine WC.loopF (fun i : Nat => [(50, iv i), (49, iv R.length), (48, .slice A1 R.length c1), (0, iv bs.length), (1, .slice A T.length c), (2, .slice B bs.length d), (7, .slice A1 R.length c1)]) (fun _ => [vec A1 R.length c1 3 1 (ldv R)]) (fun i => i ≤ R.length) (fun i => R.length - i) 0 (by repeat (first | exact trivial | refine ⟨rfl, ?_⟩)) (Imp.pick (by repeat (first | exact .head | apply Take.tail)) (Imp.nil _)) (by omega) ?_
            intro i U hi
            by_cases hlt : i < R.length
            · have g1 := ldv_get (ld := R) (k := i) hlt
              obtain ⟨q1, q2⟩ := m1 i hlt
              obtain ⟨x, hx⟩ : ∃ x, nth R i = x := ⟨_, rfl⟩
              rw [hx] at g1 q1 q2
              have g2 := bls_get (l := bs) (k := x) (by omega)
              rw [q2] at g2
              clear hr1 hr2 hrd hrr hca hcb m1 m3 m4
              (refine WC.seq ?_; intro K hK)
              refine WC.region rfl ?_
              refine WL.want rfl (WL1.give rfl (g_lt rfl (.mk rfl rfl) (.mk rfl rfl) (decide_eq_true (by omega))) ?_)
              refine WL.nil ?_
              (refine hK _ _ ?_; clear hK)
              (refine WC.seq ?_; intro K hK)
              refine WC.cond_true (.mk rfl rfl) ?_
              refine WC.skip ?_
              (refine hK _ _ ?_; clear hK)
              (refine WC.seq ?_; intro K hK)
              refine WC.block ?_
              (refine WC.seq ?_; intro K hK)
              refine WC.region rfl ?_
              refine WL.want rfl (WL1.give rfl (g_indexAddr (sz := 1) rfl (.mk rfl rfl) (.mk rfl rfl) rfl rfl rfl (by omega) (fun w hw => vec_some hw (.head _) (by omega))) ?_)
              refine WL.want rfl (WL1.give rfl (g_load rfl (.mk rfl rfl) rfl (rd_vec (by repeat (first | exact .head _ | apply List.Mem.tail)) g1)) ?_)
              refine WL.want rfl (WL1.give rfl (g_assign rfl (.mk (v := .int _ _) rfl rfl)) ?_)
              refine WL.nil ?_
              (refine hK _ _ ?_; clear hK)
              (refine WC.seq ?_; intro K hK)
              refine WC.region rfl ?_
              refine WL.want rfl (WL1.give rfl (g_move rfl (.mk (v := .int _ _) rfl rfl)) ?_)
              refine WL.want rfl (WL1.give rfl (g_lt rfl (.mk rfl rfl) (.mk rfl rfl) (decide_eq_false (by omega))) ?_)
              refine WL.want rfl (WL1.give rfl (g_move rfl (.mk (v := .bool _) rfl rfl)) ?_)
              refine WL.wantG rfl rfl rfl rfl (WL1.give rfl (g_move rfl (.mk (v := .int _ _) rfl rfl)) ?_)
              refine WL.wantG rfl rfl rfl rfl (WL1.give rfl (g_move rfl (.mk (v := .slice _ _ _) rfl rfl)) ?_)
              refine WL.wantG rfl rfl rfl rfl (WL1.give rfl (g_len rfl (.mk rfl rfl) rfl) ?_)
              refine WL.wantG rfl rfl rfl rfl (WL1.give rfl (g_ge rfl (.mk rfl rfl) (.mk rfl rfl) (decide_eq_false (by omega))) ?_)
              refine WL.want rfl (WL1.give rfl (g_pickF rfl (.mk rfl rfl) (.mk (v := .bool _) rfl rfl)) ?_)
              refine WL.want rfl (WL1.give rfl (g_move rfl (.mk (v := .bool _) rfl rfl)) ?_)
              refine WL.wantG rfl rfl rfl rfl (WL1.give rfl (g_move rfl (.mk (v := .slice _ _ _) rfl rfl)) ?_)
              refine WL.wantG rfl rfl rfl rfl (WL1.give rfl (g_move rfl (.mk (v := .int _ _) rfl rfl)) ?_)
              refine WL.wantG rfl rfl rfl rfl (WL1.give rfl (g_indexAddr (sz := 1) rfl (.mk rfl rfl) (.mk rfl rfl) rfl rfl rfl (by omega) (fun _ _ => sl_some hsb (by omega))) ?_)
              refine WL.wantG rfl rfl rfl rfl (WL1.give rfl (g_load rfl (.mk rfl rfl) rfl (rd_sl hsb g2)) ?_)
              refine WL.want rfl (WL1.give rfl (g_pickF rfl (.mk rfl rfl) (.mk (v := .bool _) rfl rfl)) ?_)
              refine WL.nil ?_
              (refine hK _ _ ?_; clear hK)
              refine WC.cond_false (.mk rfl rfl) ?_
              refine WC.skip ?_
              (refine hK _ _ ?_; clear hK)
              refine WC.region rfl ?_
              refine WL.want rfl (WL1.give rfl (g_add rfl (.mk rfl rfl) (.mk rfl rfl) (IntWalk.i64_in _ (by omega))) ?_)
              refine WL.want rfl (WL1.give rfl (g_move rfl (.mk (v := .int _ _) rfl rfl)) ?_)
              refine WL.nil ?_
              exact ⟨i + 1, (by repeat (first | exact trivial | refine ⟨rfl, ?_⟩)), .refl _, by omega, by omega⟩
            · obtain rfl : i = R.length := by omega
              clear hr1 hr2 m1
              cases ka with
              | false =>
                cases kb with
                | false =>
                  (refine WC.seq ?_; intro K hK)
                  refine WC.region rfl ?_
                  refine WL.want rfl (WL1.give rfl (g_lt rfl (.mk rfl rfl) (.mk rfl rfl) (decide_eq_false (by omega))) ?_)
                  refine WL.nil ?_
                  (refine hK _ _ ?_; clear hK)
                  (refine WC.seq ?_; intro K hK)
                  refine WC.cond_false (.mk rfl rfl) ?_
                  refine WC.exit ?_
                  (clear hK; refine hK _ _ ?_; clear hK)
                  (refine WC.seq ?_; intro K hK)
                  refine WC.region rfl ?_
                  refine WL.want rfl (WL1.give rfl (g_move rfl (.mk (v := .int _ _) rfl rfl)) ?_)
                  refine WL.want rfl (WL1.give rfl (g_move rfl (.mk (v := .slice _ _ _) rfl rfl)) ?_)
                  (refine WL.want rfl (WL1.callN rfl rfl rfl (.cons (.mk (v := .int _ _) rfl rfl) (.cons (.mk (v := .slice _ _ _) rfl rfl) .nil)) (fun w hw => hrd w hw.1) ?_); rintro _ _ ⟨A3, c3, rfl, rfl⟩)
                  refine WL.want rfl (WL1.give rfl (g_move rfl (.mk (v := .int _ _) rfl rfl)) ?_)
                  refine WL.want rfl (WL1.give rfl (g_move rfl (.mk (v := .slice _ _ _) rfl rfl)) ?_)
                  (refine WL.want rfl (WL1.callN rfl rfl rfl (.cons (.mk (v := .int _ _) rfl rfl) (.cons (.mk (v := .slice _ _ _) rfl rfl) .nil)) (fun w hw => hrr w hw.1) ?_); rintro _ _ ⟨A4, c4, rfl, rfl⟩)
                  refine WL.want rfl (WL1.give rfl (g_assign rfl (.mk (v := .slice _ _ _) rfl rfl)) ?_)
                  refine WL.want rfl (WL1.give rfl (g_assign rfl (.mk (v := .slice _ _ _) rfl rfl)) ?_)
                  refine WL.nil ?_
                  (refine hK _ _ ?_; clear hK)
                  (refine WC.seq ?_; intro K hK)
                  refine WC.region rfl ?_
                  refine WL.want rfl (WL1.give rfl (g_move rfl (.mk (v := .slice _ _ _) rfl rfl)) ?_)
                  refine WL.want rfl (WL1.give rfl (g_len rfl (.mk rfl rfl) rfl) ?_)
                  refine WL.want rfl (WL1.give rfl (g_move rfl (.mk (v := .int _ _) rfl rfl)) ?_)
                  refine WL.want rfl (WL1.give rfl (g_sub rfl (.mk rfl rfl) (.mk rfl rfl) hsubN) ?_)
                  refine WL.want rfl (WL1.give rfl (g_le rfl (.mk rfl rfl) (.mk rfl rfl) (decide_eq_true (by omega))) ?_)
                  refine WL.want rfl (WL1.give rfl (g_move rfl (.mk (v := .bool _) rfl rfl)) ?_)
                  refine WL.wantG rfl rfl rfl rfl (WL1.give rfl (g_move rfl (.mk (v := .slice _ _ _) rfl rfl)) ?_)
                  refine WL.wantG rfl rfl rfl rfl (WL1.give rfl (g_move rfl (.mk (v := .slice _ _ _) rfl rfl)) ?_)
                  refine WL.wantG rfl rfl rfl rfl (WL1.callP rfl rfl rfl (.cons (.mk (v := .slice _ _ _) rfl rfl) (.cons (.mk (v := .slice _ _ _) rfl rfl) .nil)) (fun w hw => hca w _ (Sl.of_vec hw (by repeat (first | exact .head _ | apply List.Mem.tail))) hw.1) ?_)
                  refine WL.wantG rfl rfl rfl rfl (WL1.give rfl (g_notF rfl (.mk rfl rfl)) ?_)
                  refine WL.wantG rfl rfl rfl rfl (WL1.give rfl (g_move rfl (.mk (v := .bool _) rfl rfl)) ?_)
                  refine WL.skipG rfl rfl rfl rfl rfl rfl ?_
                  refine WL.skipG rfl rfl rfl rfl rfl rfl ?_
                  refine WL.skipG rfl rfl rfl rfl rfl rfl ?_
                  refine WL.skipG rfl rfl rfl rfl rfl rfl ?_
                  refine WL.skipG rfl rfl rfl rfl rfl rfl ?_
                  refine WL.wantG rfl rfl rfl rfl (WL1.give rfl (g_pickT rfl (.mk rfl rfl) (.mk (v := .bool _) rfl rfl)) ?_)
                  refine WL.want rfl (WL1.give rfl (g_pickT rfl (.mk rfl rfl) (.mk (v := .bool _) rfl rfl)) ?_)
                  refine WL.want rfl (WL1.give rfl (g_move rfl (.mk (v := .bool _) rfl rfl)) ?_)
                  refine WL.wantG rfl rfl rfl rfl (WL1.give rfl (g_move rfl (.mk (v := .slice _ _ _) rfl rfl)) ?_)
                  refine WL.wantG rfl rfl rfl rfl (WL1.give rfl (g_move rfl (.mk (v := .slice _ _ _) rfl rfl)) ?_)
                  refine WL.wantG rfl rfl rfl rfl (WL1.callP rfl rfl rfl (.cons (.mk (v := .slice _ _ _) rfl rfl) (.cons (.mk (v := .slice _ _ _) rfl rfl) .nil)) (fun w hw => hcb w _ (Sl.of_vec hw (by repeat (first | exact .head _ | apply List.Mem.tail))) hw.1) ?_)
                  refine WL.wantG rfl rfl rfl rfl (WL1.give rfl (g_notF rfl (.mk rfl rfl)) ?_)
                  refine WL.wantG rfl rfl rfl rfl (WL1.give rfl (g_move rfl (.mk (v := .bool _) rfl rfl)) ?_)
                  refine WL.skipG rfl rfl rfl rfl rfl rfl ?_
                  refine WL.skipG rfl rfl rfl rfl rfl rfl ?_
                  refine WL.skipG rfl rfl rfl rfl rfl rfl ?_
                  refine WL.skipG rfl rfl rfl rfl rfl rfl ?_
                  refine WL.skipG rfl rfl rfl rfl rfl rfl ?_
                  refine WL.wantG rfl rfl rfl rfl (WL1.give rfl (g_pickT rfl (.mk rfl rfl) (.mk (v := .bool _) rfl rfl)) ?_)
                  refine WL.want rfl (WL1.give rfl (g_pickT rfl (.mk rfl rfl) (.mk (v := .bool _) rfl rfl)) ?_)
                  refine WL.want rfl (WL1.give rfl (g_assign rfl (.mk (v := .bool _) rfl rfl)) ?_)
                  refine WL.nil ?_
                  (refine hK _ _ ?_; clear hK)
                  refine WC.ret ?_
                  exact fun w' hw' => ⟨rfl, hw'.1⟩
                | true =>
                  have m4' := m4 rfl
                  (refine WC.seq ?_; intro K hK)
                  refine WC.region rfl ?_
                  refine WL.want rfl (WL1.give rfl (g_lt rfl (.mk rfl rfl) (.mk rfl rfl) (decide_eq_false (by omega))) ?_)
                  refine WL.nil ?_
                  (refine hK _ _ ?_; clear hK)
                  (refine WC.seq ?_; intro K hK)
                  refine WC.cond_false (.mk rfl rfl) ?_
                  refine WC.exit ?_
                  (clear hK; refine hK _ _ ?_; clear hK)
                  (refine WC.seq ?_; intro K hK)
                  refine WC.region rfl ?_
                  refine WL.want rfl (WL1.give rfl (g_move rfl (.mk (v := .int _ _) rfl rfl)) ?_)
                  refine WL.want rfl (WL1.give rfl (g_move rfl (.mk (v := .slice _ _ _) rfl rfl)) ?_)
                  (refine WL.want rfl (WL1.callN rfl rfl rfl (.cons (.mk (v := .int _ _) rfl rfl) (.cons (.mk (v := .slice _ _ _) rfl rfl) .nil)) (fun w hw => hrd w hw.1) ?_); rintro _ _ ⟨A3, c3, rfl, rfl⟩)
                  refine WL.want rfl (WL1.give rfl (g_move rfl (.mk (v := .int _ _) rfl rfl)) ?_)
                  refine WL.want rfl (WL1.give rfl (g_move rfl (.mk (v := .slice _ _ _) rfl rfl)) ?_)
                  (refine WL.want rfl (WL1.callN rfl rfl rfl (.cons (.mk (v := .int _ _) rfl rfl) (.cons (.mk (v := .slice _ _ _) rfl rfl) .nil)) (fun w hw => hrr w hw.1) ?_); rintro _ _ ⟨A4, c4, rfl, rfl⟩)
                  refine WL.want rfl (WL1.give rfl (g_assign rfl (.mk (v := .slice _ _ _) rfl rfl)) ?_)
                  refine WL.want rfl (WL1.give rfl (g_assign rfl (.mk (v := .slice _ _ _) rfl rfl)) ?_)
                  refine WL.nil ?_
                  (refine hK _ _ ?_; clear hK)
                  (refine WC.seq ?_; intro K hK)
                  refine WC.region rfl ?_
                  refine WL.want rfl (WL1.give rfl (g_move rfl (.mk (v := .slice _ _ _) rfl rfl)) ?_)
                  refine WL.want rfl (WL1.give rfl (g_len rfl (.mk rfl rfl) rfl) ?_)
                  refine WL.want rfl (WL1.give rfl (g_move rfl (.mk (v := .int _ _) rfl rfl)) ?_)
                  refine WL.want rfl (WL1.give rfl (g_sub rfl (.mk rfl rfl) (.mk rfl rfl) hsubN) ?_)
                  refine WL.want rfl (WL1.give rfl (g_le rfl (.mk rfl rfl) (.mk rfl rfl) (decide_eq_true (by omega))) ?_)
                  refine WL.want rfl (WL1.give rfl (g_move rfl (.mk (v := .bool _) rfl rfl)) ?_)
                  refine WL.wantG rfl rfl rfl rfl (WL1.give rfl (g_move rfl (.mk (v := .slice _ _ _) rfl rfl)) ?_)
                  refine WL.wantG rfl rfl rfl rfl (WL1.give rfl (g_move rfl (.mk (v := .slice _ _ _) rfl rfl)) ?_)
                  refine WL.wantG rfl rfl rfl rfl (WL1.callP rfl rfl rfl (.cons (.mk (v := .slice _ _ _) rfl rfl) (.cons (.mk (v := .slice _ _ _) rfl rfl) .nil)) (fun w hw => hca w _ (Sl.of_vec hw (by repeat (first | exact .head _ | apply List.Mem.tail))) hw.1) ?_)
                  refine WL.wantG rfl rfl rfl rfl (WL1.give rfl (g_notF rfl (.mk rfl rfl)) ?_)
                  refine WL.wantG rfl rfl rfl rfl (WL1.give rfl (g_move rfl (.mk (v := .bool _) rfl rfl)) ?_)
                  refine WL.skipG rfl rfl rfl rfl rfl rfl ?_
                  refine WL.skipG rfl rfl rfl rfl rfl rfl ?_
                  refine WL.skipG rfl rfl rfl rfl rfl rfl ?_
                  refine WL.skipG rfl rfl rfl rfl rfl rfl ?_
                  refine WL.skipG rfl rfl rfl rfl rfl rfl ?_
                  refine WL.wantG rfl rfl rfl rfl (WL1.give rfl (g_pickT rfl (.mk rfl rfl) (.mk (v := .bool _) rfl rfl)) ?_)
                  refine WL.want rfl (WL1.give rfl (g_pickT rfl (.mk rfl rfl) (.mk (v := .bool _) rfl rfl)) ?_)
                  refine WL.want rfl (WL1.give rfl (g_move rfl (.mk (v := .bool _) rfl rfl)) ?_)
                  refine WL.wantG rfl rfl rfl rfl (WL1.give rfl (g_move rfl (.mk (v := .slice _ _ _) rfl rfl)) ?_)
                  refine WL.wantG rfl rfl rfl rfl (WL1.give rfl (g_move rfl (.mk (v := .slice _ _ _) rfl rfl)) ?_)
                  refine WL.wantG rfl rfl rfl rfl (WL1.callP rfl rfl rfl (.cons (.mk (v := .slice _ _ _) rfl rfl) (.cons (.mk (v := .slice _ _ _) rfl rfl) .nil)) (fun w hw => hcb w _ (Sl.of_vec hw (by repeat (first | exact .head _ | apply List.Mem.tail))) hw.1) ?_)
                  refine WL.wantG rfl rfl rfl rfl (WL1.give rfl (g_notT rfl (.mk rfl rfl)) ?_)
                  refine WL.wantG rfl rfl rfl rfl (WL1.give rfl (g_move rfl (.mk (v := .bool _) rfl rfl)) ?_)
                  refine WL.wantG rfl rfl rfl rfl (WL1.give rfl (g_move rfl (.mk (v := .slice _ _ _) rfl rfl)) ?_)
                  refine WL.wantG rfl rfl rfl rfl (WL1.give rfl (g_len rfl (.mk rfl rfl) rfl) ?_)
                  refine WL.wantG rfl rfl rfl rfl (WL1.give rfl (g_move rfl (.mk (v := .slice _ _ _) rfl rfl)) ?_)
                  refine WL.wantG rfl rfl rfl rfl (WL1.give rfl (g_len rfl (.mk rfl rfl) rfl) ?_)
                  refine WL.wantG rfl rfl rfl rfl (WL1.give rfl (g_le rfl (.mk rfl rfl) (.mk rfl rfl) (decide_eq_true (by omega))) ?_)
                  refine WL.wantG rfl rfl rfl rfl (WL1.give rfl (g_pickF rfl (.mk rfl rfl) (.mk (v := .bool _) rfl rfl)) ?_)
                  refine WL.want rfl (WL1.give rfl (g_pickT rfl (.mk rfl rfl) (.mk (v := .bool _) rfl rfl)) ?_)
                  refine WL.want rfl (WL1.give rfl (g_assign rfl (.mk (v := .bool _) rfl rfl)) ?_)
                  refine WL.nil ?_
                  (refine hK _ _ ?_; clear hK)
                  refine WC.ret ?_
                  exact fun w' hw' => ⟨rfl, hw'.1⟩
              | true =>
                have m3' := m3 rfl
                cases kb with
                | false =>
                  (refine WC.seq ?_; intro K hK)
                  refine WC.region rfl ?_
                  refine WL.want rfl (WL1.give rfl (g_lt rfl (.mk rfl rfl) (.mk rfl rfl) (decide_eq_false (by omega))) ?_)
                  refine WL.nil ?_
                  (refine hK _ _ ?_; clear hK)
                  (refine WC.seq ?_; intro K hK)
                  refine WC.cond_false (.mk rfl rfl) ?_
                  refine WC.exit ?_
                  (clear hK; refine hK _ _ ?_; clear hK)
                  (refine WC.seq ?_; intro K hK)
                  refine WC.region rfl ?_
                  refine WL.want rfl (WL1.give rfl (g_move rfl (.mk (v := .int _ _) rfl rfl)) ?_)
                  refine WL.want rfl (WL1.give rfl (g_move rfl (.mk (v := .slice _ _ _) rfl rfl)) ?_)
                  (refine WL.want rfl (WL1.callN rfl rfl rfl (.cons (.mk (v := .int _ _) rfl rfl) (.cons (.mk (v := .slice _ _ _) rfl rfl) .nil)) (fun w hw => hrd w hw.1) ?_); rintro _ _ ⟨A3, c3, rfl, rfl⟩)
                  refine WL.want rfl (WL1.give rfl (g_move rfl (.mk (v := .int _ _) rfl rfl)) ?_)
                  refine WL.want rfl (WL1.give rfl (g_move rfl (.mk (v := .slice _ _ _) rfl rfl)) ?_)
                  (refine WL.want rfl (WL1.callN rfl rfl rfl (.cons (.mk (v := .int _ _) rfl rfl) (.cons (.mk (v := .slice _ _ _) rfl rfl) .nil)) (fun w hw => hrr w hw.1) ?_); rintro _ _ ⟨A4, c4, rfl, rfl⟩)
                  refine WL.want rfl (WL1.give rfl (g_assign rfl (.mk (v := .slice _ _ _) rfl rfl)) ?_)
                  refine WL.want rfl (WL1.give rfl (g_assign rfl (.mk (v := .slice _ _ _) rfl rfl)) ?_)
                  refine WL.nil ?_
                  (refine hK _ _ ?_; clear hK)
                  (refine WC.seq ?_; intro K hK)
                  refine WC.region rfl ?_
                  refine WL.want rfl (WL1.give rfl (g_move rfl (.mk (v := .slice _ _ _) rfl rfl)) ?_)
                  refine WL.want rfl (WL1.give rfl (g_len rfl (.mk rfl rfl) rfl) ?_)
                  refine WL.want rfl (WL1.give rfl (g_move rfl (.mk (v := .int _ _) rfl rfl)) ?_)
                  refine WL.want rfl (WL1.give rfl (g_sub rfl (.mk rfl rfl) (.mk rfl rfl) hsubN) ?_)
                  refine WL.want rfl (WL1.give rfl (g_le rfl (.mk rfl rfl) (.mk rfl rfl) (decide_eq_true (by omega))) ?_)
                  refine WL.want rfl (WL1.give rfl (g_move rfl (.mk (v := .bool _) rfl rfl)) ?_)
                  refine WL.wantG rfl rfl rfl rfl (WL1.give rfl (g_move rfl (.mk (v := .slice _ _ _) rfl rfl)) ?_)
                  refine WL.wantG rfl rfl rfl rfl (WL1.give rfl (g_move rfl (.mk (v := .slice _ _ _) rfl rfl)) ?_)
                  refine WL.wantG rfl rfl rfl rfl (WL1.callP rfl rfl rfl (.cons (.mk (v := .slice _ _ _) rfl rfl) (.cons (.mk (v := .slice _ _ _) rfl rfl) .nil)) (fun w hw => hca w _ (Sl.of_vec hw (by repeat (first | exact .head _ | apply List.Mem.tail))) hw.1) ?_)
                  refine WL.wantG rfl rfl rfl rfl (WL1.give rfl (g_notT rfl (.mk rfl rfl)) ?_)
                  refine WL.wantG rfl rfl rfl rfl (WL1.give rfl (g_move rfl (.mk (v := .bool _) rfl rfl)) ?_)
                  refine WL.wantG rfl rfl rfl rfl (WL1.give rfl (g_move rfl (.mk (v := .slice _ _ _) rfl rfl)) ?_)
                  refine WL.wantG rfl rfl rfl rfl (WL1.give rfl (g_len rfl (.mk rfl rfl) rfl) ?_)
                  refine WL.wantG rfl rfl rfl rfl (WL1.give rfl (g_move rfl (.mk (v := .slice _ _ _) rfl rfl)) ?_)
                  refine WL.wantG rfl rfl rfl rfl (WL1.give rfl (g_len rfl (.mk rfl rfl) rfl) ?_)
                  refine WL.wantG rfl rfl rfl rfl (WL1.give rfl (g_le rfl (.mk rfl rfl) (.mk rfl rfl) (decide_eq_true (by omega))) ?_)
                  refine WL.wantG rfl rfl rfl rfl (WL1.give rfl (g_pickF rfl (.mk rfl rfl) (.mk (v := .bool _) rfl rfl)) ?_)
                  refine WL.want rfl (WL1.give rfl (g_pickT rfl (.mk rfl rfl) (.mk (v := .bool _) rfl rfl)) ?_)
                  refine WL.want rfl (WL1.give rfl (g_move rfl (.mk (v := .bool _) rfl rfl)) ?_)
                  refine WL.wantG rfl rfl rfl rfl (WL1.give rfl (g_move rfl (.mk (v := .slice _ _ _) rfl rfl)) ?_)
                  refine WL.wantG rfl rfl rfl rfl (WL1.give rfl (g_move rfl (.mk (v := .slice _ _ _) rfl rfl)) ?_)
                  refine WL.wantG rfl rfl rfl rfl (WL1.callP rfl rfl rfl (.cons (.mk (v := .slice _ _ _) rfl rfl) (.cons (.mk (v := .slice _ _ _) rfl rfl) .nil)) (fun w hw => hcb w _ (Sl.of_vec hw (by repeat (first | exact .head _ | apply List.Mem.tail))) hw.1) ?_)
                  refine WL.wantG rfl rfl rfl rfl (WL1.give rfl (g_notF rfl (.mk rfl rfl)) ?_)
                  refine WL.wantG rfl rfl rfl rfl (WL1.give rfl (g_move rfl (.mk (v := .bool _) rfl rfl)) ?_)
                  refine WL.skipG rfl rfl rfl rfl rfl rfl ?_
                  refine WL.skipG rfl rfl rfl rfl rfl rfl ?_
                  refine WL.skipG rfl rfl rfl rfl rfl rfl ?_
                  refine WL.skipG rfl rfl rfl rfl rfl rfl ?_
                  refine WL.skipG rfl rfl rfl rfl rfl rfl ?_
                  refine WL.wantG rfl rfl rfl rfl (WL1.give rfl (g_pickT rfl (.mk rfl rfl) (.mk (v := .bool _) rfl rfl)) ?_)
                  refine WL.want rfl (WL1.give rfl (g_pickT rfl (.mk rfl rfl) (.mk (v := .bool _) rfl rfl)) ?_)
                  refine WL.want rfl (WL1.give rfl (g_assign rfl (.mk (v := .bool _) rfl rfl)) ?_)
                  refine WL.nil ?_
                  (refine hK _ _ ?_; clear hK)
                  refine WC.ret ?_
                  exact fun w' hw' => ⟨rfl, hw'.1⟩
                | true =>
                  have m4' := m4 rfl
                  (refine WC.seq ?_; intro K hK)
                  refine WC.region rfl ?_
                  refine WL.want rfl (WL1.give rfl (g_lt rfl (.mk rfl rfl) (.mk rfl rfl) (decide_eq_false (by omega))) ?_)
                  refine WL.nil ?_
                  (refine hK _ _ ?_; clear hK)
                  (refine WC.seq ?_; intro K hK)
                  refine WC.cond_false (.mk rfl rfl) ?_
                  refine WC.exit ?_
                  (clear hK; refine hK _ _ ?_; clear hK)
                  (refine WC.seq ?_; intro K hK)
                  refine WC.region rfl ?_
                  refine WL.want rfl (WL1.give rfl (g_move rfl (.mk (v := .int _ _) rfl rfl)) ?_)
                  refine WL.want rfl (WL1.give rfl (g_move rfl (.mk (v := .slice _ _ _) rfl rfl)) ?_)
                  (refine WL.want rfl (WL1.callN rfl rfl rfl (.cons (.mk (v := .int _ _) rfl rfl) (.cons (.mk (v := .slice _ _ _) rfl rfl) .nil)) (fun w hw => hrd w hw.1) ?_); rintro _ _ ⟨A3, c3, rfl, rfl⟩)
                  refine WL.want rfl (WL1.give rfl (g_move rfl (.mk (v := .int _ _) rfl rfl)) ?_)
                  refine WL.want rfl (WL1.give rfl (g_move rfl (.mk (v := .slice _ _ _) rfl rfl)) ?_)
                  (refine WL.want rfl (WL1.callN rfl rfl rfl (.cons (.mk (v := .int _ _) rfl rfl) (.cons (.mk (v := .slice _ _ _) rfl rfl) .nil)) (fun w hw => hrr w hw.1) ?_); rintro _ _ ⟨A4, c4, rfl, rfl⟩)
                  refine WL.want rfl (WL1.give rfl (g_assign rfl (.mk (v := .slice _ _ _) rfl rfl)) ?_)
                  refine WL.want rfl (WL1.give rfl (g_assign rfl (.mk (v := .slice _ _ _) rfl rfl)) ?_)
                  refine WL.nil ?_
                  (refine hK _ _ ?_; clear hK)
                  (refine WC.seq ?_; intro K hK)
                  refine WC.region rfl ?_
                  refine WL.want rfl (WL1.give rfl (g_move rfl (.mk (v := .slice _ _ _) rfl rfl)) ?_)
                  refine WL.want rfl (WL1.give rfl (g_len rfl (.mk rfl rfl) rfl) ?_)
                  refine WL.want rfl (WL1.give rfl (g_move rfl (.mk (v := .int _ _) rfl rfl)) ?_)
                  refine WL.want rfl (WL1.give rfl (g_sub rfl (.mk rfl rfl) (.mk rfl rfl) hsubN) ?_)
                  refine WL.want rfl (WL1.give rfl (g_le rfl (.mk rfl rfl) (.mk rfl rfl) (decide_eq_true (by omega))) ?_)
                  refine WL.want rfl (WL1.give rfl (g_move rfl (.mk (v := .bool _) rfl rfl)) ?_)
                  refine WL.wantG rfl rfl rfl rfl (WL1.give rfl (g_move rfl (.mk (v := .slice _ _ _) rfl rfl)) ?_)
                  refine WL.wantG rfl rfl rfl rfl (WL1.give rfl (g_move rfl (.mk (v := .slice _ _ _) rfl rfl)) ?_)
                  refine WL.wantG rfl rfl rfl rfl (WL1.callP rfl rfl rfl (.cons (.mk (v := .slice _ _ _) rfl rfl) (.cons (.mk (v := .slice _ _ _) rfl rfl) .nil)) (fun w hw => hca w _ (Sl.of_vec hw (by repeat (first | exact .head _ | apply List.Mem.tail))) hw.1) ?_)
                  refine WL.wantG rfl rfl rfl rfl (WL1.give rfl (g_notT rfl (.mk rfl rfl)) ?_)
                  refine WL.wantG rfl rfl rfl rfl (WL1.give rfl (g_move rfl (.mk (v := .bool _) rfl rfl)) ?_)
                  refine WL.wantG rfl rfl rfl rfl (WL1.give rfl (g_move rfl (.mk (v := .slice _ _ _) rfl rfl)) ?_)
                  refine WL.wantG rfl rfl rfl rfl (WL1.give rfl (g_len rfl (.mk rfl rfl) rfl) ?_)
                  refine WL.wantG rfl rfl rfl rfl (WL1.give rfl (g_move rfl (.mk (v := .slice _ _ _) rfl rfl)) ?_)
                  refine WL.wantG rfl rfl rfl rfl (WL1.give rfl (g_len rfl (.mk rfl rfl) rfl) ?_)
                  refine WL.wantG rfl rfl rfl rfl (WL1.give rfl (g_le rfl (.mk rfl rfl) (.mk rfl rfl) (decide_eq_true (by omega))) ?_)
                  refine WL.wantG rfl rfl rfl rfl (WL1.give rfl (g_pickF rfl (.mk rfl rfl) (.mk (v := .bool _) rfl rfl)) ?_)
                  refine WL.want rfl (WL1.give rfl (g_pickT rfl (.mk rfl rfl) (.mk (v := .bool _) rfl rfl)) ?_)
                  refine WL.want rfl (WL1.give rfl (g_move rfl (.mk (v := .bool _) rfl rfl)) ?_)
                  refine WL.wantG rfl rfl rfl rfl (WL1.give rfl (g_move rfl (.mk (v := .slice _ _ _) rfl rfl)) ?_)
                  refine WL.wantG rfl rfl rfl rfl (WL1.give rfl (g_move rfl (.mk (v := .slice _ _ _) rfl rfl)) ?_)
                  refine WL.wantG rfl rfl rfl rfl (WL1.callP rfl rfl rfl (.cons (.mk (v := .slice _ _ _) rfl rfl) (.cons (.mk (v := .slice _ _ _) rfl rfl) .nil)) (fun w hw => hcb w _ (Sl.of_vec hw (by repeat (first | exact .head _ | apply List.Mem.tail))) hw.1) ?_)
                  refine WL.wantG rfl rfl rfl rfl (WL1.give rfl (g_notT rfl (.mk rfl rfl)) ?_)
                  refine WL.wantG rfl rfl rfl rfl (WL1.give rfl (g_move rfl (.mk (v := .bool _) rfl rfl)) ?_)
                  refine WL.wantG rfl rfl rfl rfl (WL1.give rfl (g_move rfl (.mk (v := .slice _ _ _) rfl rfl)) ?_)
                  refine WL.wantG rfl rfl rfl rfl (WL1.give rfl (g_len rfl (.mk rfl rfl) rfl) ?_)
                  refine WL.wantG rfl rfl rfl rfl (WL1.give rfl (g_move rfl (.mk (v := .slice _ _ _) rfl rfl)) ?_)
                  refine WL.wantG rfl rfl rfl rfl (WL1.give rfl (g_len rfl (.mk rfl rfl) rfl) ?_)
                  refine WL.wantG rfl rfl rfl rfl (WL1.give rfl (g_le rfl (.mk rfl rfl) (.mk rfl rfl) (decide_eq_true (by omega))) ?_)
                  refine WL.wantG rfl rfl rfl rfl (WL1.give rfl (g_pickF rfl (.mk rfl rfl) (.mk (v := .bool _) rfl rfl)) ?_)
                  refine WL.want rfl (WL1.give rfl (g_pickT rfl (.mk rfl rfl) (.mk (v := .bool _) rfl rfl)) ?_)
                  refine WL.want rfl (WL1.give rfl (g_assign rfl (.mk (v := .bool _) rfl rfl)) ?_)
                  refine WL.nil ?_
                  (refine hK _ _ ?_; clear hK)
                  refine WC.ret ?_
                  exact fun w' hw' => ⟨rfl, hw'.1⟩
        · have hr1 := fun w' hb => reads_none (w := w') (r := 12) hN (by omega) (by omega) (hs.below (w' := w') hb) (hsb.below (w' := w') hb) hT (.inl ⟨by rw [hN]; omega, rfl⟩)
          have hr2 := fun w' hb => rreads_none (w := w') (r := 12) hN (by omega) (by omega) (hs.below (w' := w') hb) (hsb.below (w' := w') hb) hT (.inl ⟨by omega, rfl⟩)
          refine calls_wc (args := [iv bs.length, .slice A T.length c, .slice B bs.length d]) [6] [] Try.func6 rfl Try.ntmps6 rfl rfl rfl rfl (H.refl _) ?_
          (refine WC.seq ?_; intro K hK)
          refine WC.region rfl ?_
          refine WL.want rfl (WL1.give rfl (g_assign rfl (.mk (v := .bool _) rfl rfl)) ?_)
          refine WL.nil ?_
          (refine hK _ _ ?_; clear hK)
          (refine WC.seq ?_; intro K hK)
          (refine WC.seq ?_; intro K hK)
          refine WC.region rfl ?_
          refine WL.want rfl (WL1.callP rfl rfl rfl .nil (fun w hw => awake_e w) ?_)
          refine WL.want rfl (WL1.give rfl (g_notT rfl (.mk rfl rfl)) ?_)
          refine WL.nil ?_
          (refine hK _ _ ?_; clear hK)
          refine WC.cond_false (.mk rfl rfl) ?_
          refine WC.skip ?_
          (refine hK _ _ ?_; clear hK)
          (refine WC.seq ?_; intro K hK)
          refine WC.region rfl ?_
          refine WL.want rfl (WL1.give rfl (g_move rfl (.mk (v := .int _ _) rfl rfl)) ?_)
          refine WL.want rfl (WL1.give rfl (g_move rfl (.mk (v := .slice _ _ _) rfl rfl)) ?_)
          refine WL.want rfl (WL1.give rfl (g_move rfl (.mk (v := .slice _ _ _) rfl rfl)) ?_)
          refine WL.want rfl (WL1.callP rfl rfl rfl (.cons (.mk (v := .int _ _) rfl rfl) (.cons (.mk (v := .slice _ _ _) rfl rfl) (.cons (.mk (v := .slice _ _ _) rfl rfl) .nil))) (fun w hw => hr1 w hw.1) ?_)
          refine WL.want rfl (WL1.give rfl (g_move rfl (.mk (v := .tuple _) rfl rfl)) ?_)
          refine WL.want rfl (WL1.give rfl (g_extract rfl (.mk rfl rfl) rfl) ?_)
          refine WL.want rfl (WL1.give rfl (g_extract rfl (.mk rfl rfl) rfl) ?_)
          refine WL.want rfl (WL1.give rfl (g_assign rfl (.mk (v := .slice _ _ _) rfl rfl)) ?_)
          refine WL.want rfl (WL1.give rfl (g_assign rfl (.mk (v := .int _ _) rfl rfl)) ?_)
          refine WL.nil ?_
          (refine hK _ _ ?_; clear hK)
          (refine WC.seq ?_; intro K hK)
          (refine WC.seq ?_; intro K hK)
          refine WC.region rfl ?_
          refine WL.want rfl (WL1.give rfl (g_move rfl (.mk (v := .int _ _) rfl rfl)) ?_)
          refine WL.want rfl (WL1.give rfl (g_move rfl (.mk (v := .slice _ _ _) rfl rfl)) ?_)
          refine WL.want rfl (WL1.give rfl (g_move rfl (.mk (v := .slice _ _ _) rfl rfl)) ?_)
          refine WL.want rfl (WL1.callP rfl rfl rfl (.cons (.mk (v := .int _ _) rfl rfl) (.cons (.mk (v := .slice _ _ _) rfl rfl) (.cons (.mk (v := .slice _ _ _) rfl rfl) .nil))) (fun w hw => hr2 w hw.1) ?_)
          refine WL.want rfl (WL1.give rfl (g_move rfl (.mk (v := .tuple _) rfl rfl)) ?_)
          refine WL.want rfl (WL1.give rfl (g_extract rfl (.mk rfl rfl) rfl) ?_)
          refine WL.want rfl (WL1.give rfl (g_extract rfl (.mk rfl rfl) rfl) ?_)
          refine WL.want rfl (WL1.give rfl (g_assign rfl (.mk (v := .slice _ _ _) rfl rfl)) ?_)
          refine WL.want rfl (WL1.give rfl (g_assign rfl (.mk (v := .int _ _) rfl rfl)) ?_)
          refine WL.nil ?_
          (refine hK _ _ ?_; clear hK)
          (refine WC.seq ?_; intro K hK)
          refine WC.region rfl ?_
          refine WL.want rfl (WL1.give rfl (g_move rfl (.mk (v := .int _ _) rfl rfl)) ?_)
          refine WL.want rfl (WL1.give rfl (g_ne rfl (.mk rfl rfl) (.mk rfl rfl) (decide_eq_true (by omega))) ?_)
          refine WL.want rfl (WL1.give rfl (g_move rfl (.mk (v := .bool _) rfl rfl)) ?_)
          refine WL.skipG rfl rfl rfl rfl rfl rfl ?_
          refine WL.skipG rfl rfl rfl rfl rfl rfl ?_
          refine WL.skipG rfl rfl rfl rfl rfl rfl ?_
          refine WL.want rfl (WL1.give rfl (g_pickT rfl (.mk rfl rfl) (.mk (v := .bool _) rfl rfl)) ?_)
          refine WL.nil ?_
          (refine hK _ _ ?_; clear hK)
          refine WC.cond_true (.mk rfl rfl) ?_
          (refine WC.seq ?_; intro K hK)
          refine WC.region rfl ?_
          refine WL.want rfl (WL1.give rfl (g_move rfl (.mk (v := .int _ _) rfl rfl)) ?_)
          refine WL.want rfl (WL1.give rfl (g_move rfl (.mk (v := .int _ _) rfl rfl)) ?_)
          refine WL.want rfl (WL1.give rfl (g_eq rfl (.mk rfl rfl) (.mk rfl rfl) (decide_eq_true (by omega))) ?_)
          refine WL.want rfl (WL1.give rfl (g_move rfl (.mk (v := .bool _) rfl rfl)) ?_)
          refine WL.wantG rfl rfl rfl rfl (WL1.give rfl (g_move rfl (.mk (v := .slice _ _ _) rfl rfl)) ?_)
          refine WL.wantG rfl rfl rfl rfl (WL1.give rfl (g_len rfl (.mk rfl rfl) rfl) ?_)
          refine WL.wantG rfl rfl rfl rfl (WL1.give rfl (g_eq rfl (.mk rfl rfl) (.mk rfl rfl) (decide_eq_true (by omega))) ?_)
          refine WL.want rfl (WL1.give rfl (g_pickT rfl (.mk rfl rfl) (.mk (v := .bool _) rfl rfl)) ?_)
          refine WL.want rfl (WL1.give rfl (g_assign rfl (.mk (v := .bool _) rfl rfl)) ?_)
          refine WL.nil ?_
          (refine hK _ _ ?_; clear hK)
          refine WC.ret ?_
          exact fun w' hw' => ⟨rfl, hw'.1⟩
      · have hr1 := fun w' hb => reads_badT (w := w') hN (by omega) (by omega) (hs.below (w' := w') hb) (hsb.below (w' := w') hb) hj (by omega)
        have hr2 := fun w' hb => rreads_badT (w := w') hN (by omega) (by omega) (hs.below (w' := w') hb) (hsb.below (w' := w') hb) hj (by omega)
        refine calls_wc (args := [iv bs.length, .slice A T.length c, .slice B bs.length d]) [6] [] Try.func6 rfl Try.ntmps6 rfl rfl rfl rfl (H.refl _) ?_
        (refine WC.seq ?_; intro K hK)
        refine WC.region rfl ?_
        refine WL.want rfl (WL1.give rfl (g_assign rfl (.mk (v := .bool _) rfl rfl)) ?_)
        refine WL.nil ?_
        (refine hK _ _ ?_; clear hK)
        (refine WC.seq ?_; intro K hK)
        (refine WC.seq ?_; intro K hK)
        refine WC.region rfl ?_
        refine WL.want rfl (WL1.callP rfl rfl rfl .nil (fun w hw => awake_e w) ?_)
        refine WL.want rfl (WL1.give rfl (g_notT rfl (.mk rfl rfl)) ?_)
        refine WL.nil ?_
        (refine hK _ _ ?_; clear hK)
        refine WC.cond_false (.mk rfl rfl) ?_
        refine WC.skip ?_
        (refine hK _ _ ?_; clear hK)
        (refine WC.seq ?_; intro K hK)
        refine WC.region rfl ?_
        refine WL.want rfl (WL1.give rfl (g_move rfl (.mk (v := .int _ _) rfl rfl)) ?_)
        refine WL.want rfl (WL1.give rfl (g_move rfl (.mk (v := .slice _ _ _) rfl rfl)) ?_)
        refine WL.want rfl (WL1.give rfl (g_move rfl (.mk (v := .slice _ _ _) rfl rfl)) ?_)
        refine WL.want rfl (WL1.callP rfl rfl rfl (.cons (.mk (v := .int _ _) rfl rfl) (.cons (.mk (v := .slice _ _ _) rfl rfl) (.cons (.mk (v := .slice _ _ _) rfl rfl) .nil))) (fun w hw => hr1 w hw.1) ?_)
        refine WL.want rfl (WL1.give rfl (g_move rfl (.mk (v := .tuple _) rfl rfl)) ?_)
        refine WL.want rfl (WL1.give rfl (g_extract rfl (.mk rfl rfl) rfl) ?_)
        refine WL.want rfl (WL1.give rfl (g_extract rfl (.mk rfl rfl) rfl) ?_)
        refine WL.want rfl (WL1.give rfl (g_assign rfl (.mk (v := .slice _ _ _) rfl rfl)) ?_)
        refine WL.want rfl (WL1.give rfl (g_assign rfl (.mk (v := .int _ _) rfl rfl)) ?_)
        refine WL.nil ?_
        (refine hK _ _ ?_; clear hK)
        (refine WC.seq ?_; intro K hK)
        (refine WC.seq ?_; intro K hK)
        refine WC.region rfl ?_
        refine WL.want rfl (WL1.give rfl (g_move rfl (.mk (v := .int _ _) rfl rfl)) ?_)
        refine WL.want rfl (WL1.give rfl (g_move rfl (.mk (v := .slice _ _ _) rfl rfl)) ?_)
        refine WL.want rfl (WL1.give rfl (g_move rfl (.mk (v := .slice _ _ _) rfl rfl)) ?_)
        refine WL.want rfl (WL1.callP rfl rfl rfl (.cons (.mk (v := .int _ _) rfl rfl) (.cons (.mk (v := .slice _ _ _) rfl rfl) (.cons (.mk (v := .slice _ _ _) rfl rfl) .nil))) (fun w hw => hr2 w hw.1) ?_)
        refine WL.want rfl (WL1.give rfl (g_move rfl (.mk (v := .tuple _) rfl rfl)) ?_)
        refine WL.want rfl (WL1.give rfl (g_extract rfl (.mk rfl rfl) rfl) ?_)
        refine WL.want rfl (WL1.give rfl (g_extract rfl (.mk rfl rfl) rfl) ?_)
        refine WL.want rfl (WL1.give rfl (g_assign rfl (.mk (v := .slice _ _ _) rfl rfl)) ?_)
        refine WL.want rfl (WL1.give rfl (g_assign rfl (.mk (v := .int _ _) rfl rfl)) ?_)
        refine WL.nil ?_
        (refine hK _ _ ?_; clear hK)
        (refine WC.seq ?_; intro K hK)
        refine WC.region rfl ?_
        refine WL.want rfl (WL1.give rfl (g_move rfl (.mk (v := .int _ _) rfl rfl)) ?_)
        refine WL.want rfl (WL1.give rfl (g_ne rfl (.mk rfl rfl) (.mk rfl rfl) (decide_eq_true (by omega))) ?_)
        refine WL.want rfl (WL1.give rfl (g_move rfl (.mk (v := .bool _) rfl rfl)) ?_)
        refine WL.skipG rfl rfl rfl rfl rfl rfl ?_
        refine WL.skipG rfl rfl rfl rfl rfl rfl ?_
        refine WL.skipG rfl rfl rfl rfl rfl rfl ?_
        refine WL.want rfl (WL1.give rfl (g_pickT rfl (.mk rfl rfl) (.mk (v := .bool _) rfl rfl)) ?_)
        refine WL.nil ?_
        (refine hK _ _ ?_; clear hK)
        refine WC.cond_true (.mk rfl rfl) ?_
        (refine WC.seq ?_; intro K hK)
        refine WC.region rfl ?_
        refine WL.want rfl (WL1.give rfl (g_move rfl (.mk (v := .int _ _) rfl rfl)) ?_)
        refine WL.want rfl (WL1.give rfl (g_move rfl (.mk (v := .int _ _) rfl rfl)) ?_)
        refine WL.want rfl (WL1.give rfl (g_eq rfl (.mk rfl rfl) (.mk rfl rfl) (decide_eq_true (by omega))) ?_)
        refine WL.want rfl (WL1.give rfl (g_move rfl (.mk (v := .bool _) rfl rfl)) ?_)
        refine WL.wantG rfl rfl rfl rfl (WL1.give rfl (g_move rfl (.mk (v := .slice _ _ _) rfl rfl)) ?_)
        refine WL.wantG rfl rfl rfl rfl (WL1.give rfl (g_len rfl (.mk rfl rfl) rfl) ?_)
        refine WL.wantG rfl rfl rfl rfl (WL1.give rfl (g_eq rfl (.mk rfl rfl) (.mk rfl rfl) (decide_eq_true (by omega))) ?_)
        refine WL.want rfl (WL1.give rfl (g_pickT rfl (.mk rfl rfl) (.mk (v := .bool _) rfl rfl)) ?_)
        refine WL.want rfl (WL1.give rfl (g_assign rfl (.mk (v := .bool _) rfl rfl)) ?_)
        refine WL.nil ?_
        (refine hK _ _ ?_; clear hK)
        refine WC.ret ?_
        exact fun w' hw' => ⟨rfl, hw'.1⟩
    · have hr1 := fun w' hb => reads_badw (w := w') m (hs.below (w' := w') hb) (hsb.below (w' := w') hb) hw0
      have hr2 := fun w' hb => rreads_badw (w := w') m (hs.below (w' := w') hb) (hsb.below (w' := w') hb) hw0
      refine calls_wc (args := [iv m, .slice A T.length c, .slice B bs.length d]) [6] [] Try.func6 rfl Try.ntmps6 rfl rfl rfl rfl (H.refl _) ?_
      (refine WC.seq ?_; intro K hK)
      refine WC.region rfl ?_
      refine WL.want rfl (WL1.give rfl (g_assign rfl (.mk (v := .bool _) rfl rfl)) ?_)
      refine WL.nil ?_
      (refine hK _ _ ?_; clear hK)
      (refine WC.seq ?_; intro K hK)
      (refine WC.seq ?_; intro K hK)
      refine WC.region rfl ?_
      refine WL.want rfl (WL1.callP rfl rfl rfl .nil (fun w hw => awake_e w) ?_)
      refine WL.want rfl (WL1.give rfl (g_notT rfl (.mk rfl rfl)) ?_)
      refine WL.nil ?_
      (refine hK _ _ ?_; clear hK)
      refine WC.cond_false (.mk rfl rfl) ?_
      refine WC.skip ?_
      (refine hK _ _ ?_; clear hK)
      (refine WC.seq ?_; intro K hK)
      refine WC.region rfl ?_
      refine WL.want rfl (WL1.give rfl (g_move rfl (.mk (v := .int _ _) rfl rfl)) ?_)
      refine WL.want rfl (WL1.give rfl (g_move rfl (.mk (v := .slice _ _ _) rfl rfl)) ?_)
      refine WL.want rfl (WL1.give rfl (g_move rfl (.mk (v := .slice _ _ _) rfl rfl)) ?_)
      refine WL.want rfl (WL1.callP rfl rfl rfl (.cons (.mk (v := .int _ _) rfl rfl) (.cons (.mk (v := .slice _ _ _) rfl rfl) (.cons (.mk (v := .slice _ _ _) rfl rfl) .nil))) (fun w hw => hr1 w hw.1) ?_)
      refine WL.want rfl (WL1.give rfl (g_move rfl (.mk (v := .tuple _) rfl rfl)) ?_)
      refine WL.want rfl (WL1.give rfl (g_extract rfl (.mk rfl rfl) rfl) ?_)
      refine WL.want rfl (WL1.give rfl (g_extract rfl (.mk rfl rfl) rfl) ?_)
      refine WL.want rfl (WL1.give rfl (g_assign rfl (.mk (v := .slice _ _ _) rfl rfl)) ?_)
      refine WL.want rfl (WL1.give rfl (g_assign rfl (.mk (v := .int _ _) rfl rfl)) ?_)
      refine WL.nil ?_
      (refine hK _ _ ?_; clear hK)
      (refine WC.seq ?_; intro K hK)
      (refine WC.seq ?_; intro K hK)
      refine WC.region rfl ?_
      refine WL.want rfl (WL1.give rfl (g_move rfl (.mk (v := .int _ _) rfl rfl)) ?_)
      refine WL.want rfl (WL1.give rfl (g_move rfl (.mk (v := .slice _ _ _) rfl rfl)) ?_)
      refine WL.want rfl (WL1.give rfl (g_move rfl (.mk (v := .slice _ _ _) rfl rfl)) ?_)
      refine WL.want rfl (WL1.callP rfl rfl rfl (.cons (.mk (v := .int _ _) rfl rfl) (.cons (.mk (v := .slice _ _ _) rfl rfl) (.cons (.mk (v := .slice _ _ _) rfl rfl) .nil))) (fun w hw => hr2 w hw.1) ?_)
      refine WL.want rfl (WL1.give rfl (g_move rfl (.mk (v := .tuple _) rfl rfl)) ?_)
      refine WL.want rfl (WL1.give rfl (g_extract rfl (.mk rfl rfl) rfl) ?_)
      refine WL.want rfl (WL1.give rfl (g_extract rfl (.mk rfl rfl) rfl) ?_)
      refine WL.want rfl (WL1.give rfl (g_assign rfl (.mk (v := .slice _ _ _) rfl rfl)) ?_)
      refine WL.want rfl (WL1.give rfl (g_assign rfl (.mk (v := .int _ _) rfl rfl)) ?_)
      refine WL.nil ?_
      (refine hK _ _ ?_; clear hK)
      (refine WC.seq ?_; intro K hK)
      refine WC.region rfl ?_
      refine WL.want rfl (WL1.give rfl (g_move rfl (.mk (v := .int _ _) rfl rfl)) ?_)
      refine WL.want rfl (WL1.give rfl (g_ne rfl (.mk rfl rfl) (.mk rfl rfl) (decide_eq_true (by omega))) ?_)
      refine WL.want rfl (WL1.give rfl (g_move rfl (.mk (v := .bool _) rfl rfl)) ?_)
      refine WL.skipG rfl rfl rfl rfl rfl rfl ?_
      refine WL.skipG rfl rfl rfl rfl rfl rfl ?_
      refine WL.skipG rfl rfl rfl rfl rfl rfl ?_
      refine WL.want rfl (WL1.give rfl (g_pickT rfl (.mk rfl rfl) (.mk (v := .bool _) rfl rfl)) ?_)
      refine WL.nil ?_
      (refine hK _ _ ?_; clear hK)
      refine WC.cond_true (.mk rfl rfl) ?_
      (refine WC.seq ?_; intro K hK)
      refine WC.region rfl ?_
      refine WL.want rfl (WL1.give rfl (g_move rfl (.mk (v := .int _ _) rfl rfl)) ?_)
      refine WL.want rfl (WL1.give rfl (g_move rfl (.mk (v := .int _ _) rfl rfl)) ?_)
      refine WL.want rfl (WL1.give rfl (g_eq rfl (.mk rfl rfl) (.mk rfl rfl) (decide_eq_true (by omega))) ?_)
      refine WL.want rfl (WL1.give rfl (g_move rfl (.mk (v := .bool _) rfl rfl)) ?_)
      refine WL.wantG rfl rfl rfl rfl (WL1.give rfl (g_move rfl (.mk (v := .slice _ _ _) rfl rfl)) ?_)
      refine WL.wantG rfl rfl rfl rfl (WL1.give rfl (g_len rfl (.mk rfl rfl) rfl) ?_)
      refine WL.wantG rfl rfl rfl rfl (WL1.give rfl (g_eq rfl (.mk rfl rfl) (.mk rfl rfl) (decide_eq_true (by omega))) ?_)
      refine WL.want rfl (WL1.give rfl (g_pickT rfl (.mk rfl rfl) (.mk (v := .bool _) rfl rfl)) ?_)
      refine WL.want rfl (WL1.give rfl (g_assign rfl (.mk (v := .bool _) rfl rfl)) ?_)
      refine WL.nil ?_
      (refine hK _ _ ?_; clear hK)
      refine WC.ret ?_
      exact fun w' hw' => ⟨rfl, hw'.1⟩

set_option maxRecDepth 100000 in
theorem lifted (os : Os) (started : os.Started) (H : Type) (enc : TypeId × Value → H) :
    ReturnsInHanded {} Try.checked os 6 .any (Rows.groupFewestSpec.pre6 enc Try.prog Try.f6 Rows.groupFewestRow.domain false) (Rows.groupFewestSpec.post enc Try.prog Try.f6 false true false false) := by
  refine returnsInHanded_of_change (C := Try.checked) own started (by kernel_rfl) Try.func6
    (ChangeSpec.witness6 (enc := enc) (C := Try.checked) false ⟨#[], #[.int .i64 0, .slice none 0 0, .slice none 0 0], []⟩ 8 (by kernel_rfl) (by kernel_rfl) (by kernel_rfl) (by kernel_rfl)) ?_
  intro W base args ds gs before hval0 hW _ _
  have hval : ∀ (j : Nat) t v, Try.f6.params[j]? = some t → args[j]? = some v → Value.okWide Try.prog W .any base t v := hval0
  have hW' := hW
  obtain ⟨p, q, hA0, hV, rfl, hfz, hnd⟩ := hW
  have hA : DataW.TrodAll enc Try.prog W 0 (fun _ => true) true Try.f6.params.toList args.toList ds p := hA0
  rw [Try.params6] at hA hval
  obtain ⟨v0, vs0, d0, ds0, p0, q0, hargs, rfl, rfl, h0, r0⟩ := trodAll_cons hA
  obtain ⟨v1, vs1, d1, ds1, p1, q1, rfl, rfl, rfl, h1, r1⟩ := trodAll_cons r0
  obtain ⟨v2, vs2, d2, ds2, p2, q2, rfl, rfl, rfl, h2, r2⟩ := trodAll_cons r1
  obtain ⟨rfl, rfl, rfl⟩ := trodAll_nil r2
  obtain rfl : args = #[v0, v1, v2] := by cases args; simp_all
  obtain ⟨m, rfl, mlo, mhi⟩ := open_iv (hval 0 3 v0 rfl rfl) h0
  obtain ⟨t, tsl, tr⟩ := open_ints (k := .i64) Try.underlying25 Try.underlying3 (by kernel_rfl) (hval 1 25 v1 rfl rfl) h1
  obtain ⟨b, bsl⟩ := open_bools (hval 2 41 v2 rfl rfl) h2
  refine (walk (w := W) m mlo mhi v1 t tsl tr v2 b bsl).mono fun e W' ⟨he, hb⟩ => ?_
  subst he
  exact ⟨_, rfl, law_post laidOut (by kernel_rfl) rfl rfl Try.underlying4 (fun ds h => by match ds, h with | [_, _, _], _ => rfl) hW' hb⟩

theorem proved : Rows.GroupFewestSaid :=
  OpenClaim.holds_of_wide 6 Try.f6 rfl rfl rfl rfl rfl rfl rfl ⟨rfl, rfl, rfl, rfl, rfl⟩ rfl rfl rfl rfl rfl (by kernel_rfl) Try.func6 (by kernel_rfl)
    (of_decide_eq_true (by kernel_rfl)) (by unfold Func.isWrapper; first | (rw [if_pos (by decide +kernel)]; kernel_rfl) | (rw [if_neg (by decide +kernel)]; exact ⟨rfl, rfl⟩))
    (fun os started H enc _ => lifted os started H enc)
end Go.Proofs.Ytnkbnponpknokaa.LGroupFewest
