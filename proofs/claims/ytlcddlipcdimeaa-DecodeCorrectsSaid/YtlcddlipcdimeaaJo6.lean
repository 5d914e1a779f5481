/- Texts joined: Dec11, Mks. The parts say what each of them proves. No condition. -/
import Derived.Test.YtlcddlipcdimeaaJo5
namespace Go.Proofs.Ytlcddlipcdimeaa
open Go.RowKit
attribute [local irreducible] Calls
/-- One of the helpers' numbers is as it should be. -/
def okA (fl : List Int) (wd : Int) (i : Nat) : Prop := 0 ≤ nth fl i ∧ nth fl i < wd ∧ (i = 0 ∨ nth fl (i - 1) < nth fl i)
/-- The arguments are as they should be. -/
structure Wok (wd : Int) (fl : List Int) (to : Int) : Prop where
  w1 : 4 ≤ wd
  w2 : wd ≤ 16
  len : (fl.length : Int) = wd - 3
  t1 : 0 ≤ to
  t2 : to < wd
  each : ∀ i, i < fl.length → okA fl wd i
def natL (fl : List Int) : List Nat := fl.map Int.toNat
theorem natL_len (fl : List Int) : (natL fl).length = fl.length := by simp [natL]
theorem natL_nth {fl : List Int} {i : Nat} (h : i < fl.length) : nth (natL fl) i = (nth fl i).toNat := nth_map _ h
theorem natL_ldv {wd : Int} {fl : List Int} {to : Int} (h : Wok wd fl to) : ivs fl = ldv (natL fl) := by
  unfold ivs ldv natL
  rw [List.map_map]
  refine List.map_congr_left fun x hx => ?_
  obtain ⟨i, hi, rfl⟩ := List.getElem_of_mem hx
  have := (h.each i hi).1
  rw [nth_eq hi] at this
  show Value.int .i64 _ = iv _
  rw [Int.toNat_of_nonneg this]
theorem Wok.wfr {wd : Int} {fl : List Int} {to : Int} {n : Nat} (h : Wok wd fl to) (hn : wd = ((n + 3 : Nat) : Int)) : Wfr n (natL fl) := by
  have hl := h.len
  refine ⟨by rw [natL_len]; omega, fun i hi => ?_, fun i hi => ?_⟩
  · rw [natL_nth (by omega)]
    have := h.each i (by omega)
    have h1 := this.1
    have h2 := this.2.1
    omega
  · rw [natL_nth (by omega), natL_nth (by omega)]
    have h1 := (h.each i (by omega)).1
    have h2 := (h.each (i + 1) (by omega)).2.2
    have h3 : nth fl (i + 1 - 1) = nth fl i := by rw [Nat.add_sub_cancel]
    rw [h3] at h2
    omega
set_option maxRecDepth 20000 in
set_option maxHeartbeats 2000000 in
theorem weights_bad (v : Value) (wd to : Int) (fl : List Int) (w : World) (hv : Sl w 1 v fl.length (ivs fl)) (hr : -9223372036854775808 ≤ wd ∧ wd ≤ 9223372036854775807) (h : ¬ Wok wd fl to) :
    Calls Try.prog 12 #[iv wd, v, iv to] w fun e w' => e = .returned (.tuple #[.slice none 0 0, iv 1]) ∧ Below w.heap.size w w' := by
  obtain ⟨A, c, rfl, hcc, hmm, hs⟩ := hv.open_
  have hpos := fun w' => possible_i wd w'
  by_cases h1 : 4 ≤ wd ∧ wd ≤ 16
  · rw [decide_eq_true h1] at hpos
    have hsub : IntKind.i64.wrap (wd - 3) = wd - 3 := IntWalk.i64_in _ (by omega)
    by_cases h2 : (fl.length : Int) = wd - 3
    · by_cases h3 : 0 ≤ to
      · by_cases h4 : to < wd
        · have hbad : ¬ ∀ i, i < fl.length → okA fl wd i := fun he => h ⟨h1.1, h1.2, h2, h3, h4, he⟩
          refine calls_wc (args := [iv wd, .slice A fl.length c, iv to]) [6, 7] [] Try.func12 rfl Try.ntmps12 rfl rfl rfl rfl (H.refl w) ?_
          (refine WC.seq ?_; intro K hK)
          refine WC.region rfl ?_
          refine WL.want rfl (WL1.give rfl (g_assign rfl (.mk (v := .slice _ _ _) rfl rfl)) ?_)
          refine WL.want rfl (WL1.give rfl (g_assign rfl (.mk (v := .int _ _) rfl rfl)) ?_)
          refine WL.nil ?_
          (refine hK _ _ ?_; clear hK)
          (refine WC.seq ?_; intro K hK)
          (refine WC.seq ?_; intro K hK)
          refine WC.region rfl ?_
          refine WL.want rfl (WL1.give rfl (g_move rfl (.mk (v := .int _ _) rfl rfl)) ?_)
          refine WL.want rfl (WL1.callP rfl rfl rfl (.cons (.mk (v := .int _ _) rfl rfl) .nil) (fun w hw => hpos w) ?_)
          refine WL.want rfl (WL1.give rfl (g_notT rfl (.mk rfl rfl)) ?_)
          refine WL.want rfl (WL1.give rfl (g_move rfl (.mk (v := .bool _) rfl rfl)) ?_)
          refine WL.wantG rfl rfl rfl rfl (WL1.give rfl (g_move rfl (.mk (v := .slice _ _ _) rfl rfl)) ?_)
          refine WL.wantG rfl rfl rfl rfl (WL1.give rfl (g_len rfl (.mk rfl rfl) rfl) ?_)
          refine WL.wantG rfl rfl rfl rfl (WL1.give rfl (g_move rfl (.mk (v := .int _ _) rfl rfl)) ?_)
          refine WL.wantG rfl rfl rfl rfl (WL1.give rfl (g_sub rfl (.mk rfl rfl) (.mk rfl rfl) hsub) ?_)
          refine WL.wantG rfl rfl rfl rfl (WL1.give rfl (g_ne rfl (.mk rfl rfl) (.mk rfl rfl) (decide_eq_false (by omega))) ?_)
          refine WL.want rfl (WL1.give rfl (g_pickF rfl (.mk rfl rfl) (.mk (v := .bool _) rfl rfl)) ?_)
          refine WL.want rfl (WL1.give rfl (g_move rfl (.mk (v := .bool _) rfl rfl)) ?_)
          refine WL.wantG rfl rfl rfl rfl (WL1.give rfl (g_move rfl (.mk (v := .int _ _) rfl rfl)) ?_)
          refine WL.wantG rfl rfl rfl rfl (WL1.give rfl (g_lt rfl (.mk rfl rfl) (.mk rfl rfl) (decide_eq_false (by omega))) ?_)
          refine WL.want rfl (WL1.give rfl (g_pickF rfl (.mk rfl rfl) (.mk (v := .bool _) rfl rfl)) ?_)
          refine WL.want rfl (WL1.give rfl (g_move rfl (.mk (v := .bool _) rfl rfl)) ?_)
          refine WL.wantG rfl rfl rfl rfl (WL1.give rfl (g_move rfl (.mk (v := .int _ _) rfl rfl)) ?_)
          refine WL.wantG rfl rfl rfl rfl (WL1.give rfl (g_move rfl (.mk (v := .int _ _) rfl rfl)) ?_)
          refine WL.wantG rfl rfl rfl rfl (WL1.give rfl (g_ge rfl (.mk rfl rfl) (.mk rfl rfl) (decide_eq_false (by omega))) ?_)
          refine WL.want rfl (WL1.give rfl (g_pickF rfl (.mk rfl rfl) (.mk (v := .bool _) rfl rfl)) ?_)
          refine WL.nil ?_
          (refine hK _ _ ?_; clear hK)
          refine WC.cond_false (.mk rfl rfl) ?_
          refine WC.skip ?_
          (refine hK _ _ ?_; clear hK)
          (refine WC.seq ?_; intro K hK)
          (refine WC.seq ?_; intro K hK)
          refine WC.region rfl ?_
          refine WL.want rfl (WL1.give rfl (g_move rfl (.mk (v := .slice _ _ _) rfl rfl)) ?_)
          refine WL.want rfl (WL1.give rfl (g_len rfl (.mk rfl rfl) rfl) ?_)
          refine WL.want rfl (WL1.give rfl (g_move rfl (.mk (v := .int _ _) rfl rfl)) ?_)
          refine WL.nil ?_
          (refine hK _ _ ?_; clear hK)
          refine WC.block ?_
          refine WC.loopF (fun i : Nat => [(39, iv i), (38, iv fl.length), (37, .slice A fl.length c), (0, iv wd), (1, .slice A fl.length c)]) (fun _ => []) (fun i => i ≤ fl.length ∧ ∀ j, j < i → okA fl wd j) (fun i => fl.length - i) 0 (by repeat (first | exact trivial | refine ⟨rfl, ?_⟩)) (Imp.nil _) ⟨by omega, fun j hj => absurd hj (by omega)⟩ ?_
          rintro i U ⟨hi, hpi⟩
          by_cases hlt : i < fl.length
          · have hgv := ivs_get (l := fl) (k := i) hlt
            have hgv2 := ivs_get (l := fl) (k := i - 1) (by omega)
            obtain ⟨x, hx⟩ : ∃ x, x = nth fl i := ⟨_, rfl⟩
            obtain ⟨y, hy⟩ : ∃ y, y = nth fl (i - 1) := ⟨_, rfl⟩
            rw [← hx] at hgv
            rw [← hy] at hgv2
            have hok : okA fl wd i ↔ 0 ≤ x ∧ x < wd ∧ (i = 0 ∨ y < x) := by unfold okA; rw [← hx, ← hy]
            have hnext : okA fl wd i → ∀ j, j < i + 1 → okA fl wd j := fun h j hj => by
              by_cases e : j = i
              · rw [e]; exact h
              · exact hpi j (by omega)
            by_cases q1 : 0 ≤ x
            · by_cases q2 : x < wd
              · by_cases q3 : i = 0
                · have := hnext (hok.2 ⟨q1, q2, .inl q3⟩)
                  (refine WC.seq ?_; intro K hK)
                  refine WC.region rfl ?_
                  refine WL.want rfl (WL1.give rfl (g_lt rfl (.mk rfl rfl) (.mk rfl rfl) (decide_eq_true (by omega))) ?_)
                  refine WL.nil ?_
                  (refine hK _ _ ?_; clear hK)
                  (refine WC.seq ?_; intro K hK)
                  refine WC.cond_true (.mk rfl rfl) ?_
                  refine WC.skip ?_
                  (refine hK _ _ ?_; clear hK)
                  (refine WC.seq ?_; intro K hK)
                  refine WC.block ?_
                  (refine WC.seq ?_; intro K hK)
                  refine WC.region rfl ?_
                  refine WL.want rfl (WL1.give rfl (g_move rfl (.mk (v := .int _ _) rfl rfl)) ?_)
                  refine WL.want rfl (WL1.give rfl (g_indexAddr (sz := 1) rfl (.mk rfl rfl) (.mk rfl rfl) rfl rfl rfl (by omega) (fun _ _ => sl_some hs (by omega))) ?_)
                  refine WL.want rfl (WL1.give rfl (g_load rfl (.mk rfl rfl) rfl (rd_sl hs hgv)) ?_)
                  refine WL.want rfl (WL1.give rfl (g_assign rfl (.mk (v := .int _ _) rfl rfl)) ?_)
                  refine WL.want rfl (WL1.give rfl (g_assign rfl (.mk (v := .int _ _) rfl rfl)) ?_)
                  refine WL.nil ?_
                  (refine hK _ _ ?_; clear hK)
                  (refine WC.seq ?_; intro K hK)
                  refine WC.region rfl ?_
                  refine WL.want rfl (WL1.give rfl (g_move rfl (.mk (v := .int _ _) rfl rfl)) ?_)
                  refine WL.want rfl (WL1.give rfl (g_lt rfl (.mk rfl rfl) (.mk rfl rfl) (decide_eq_false (by omega))) ?_)
                  refine WL.want rfl (WL1.give rfl (g_move rfl (.mk (v := .bool _) rfl rfl)) ?_)
                  refine WL.wantG rfl rfl rfl rfl (WL1.give rfl (g_move rfl (.mk (v := .int _ _) rfl rfl)) ?_)
                  refine WL.wantG rfl rfl rfl rfl (WL1.give rfl (g_move rfl (.mk (v := .int _ _) rfl rfl)) ?_)
                  refine WL.wantG rfl rfl rfl rfl (WL1.give rfl (g_ge rfl (.mk rfl rfl) (.mk rfl rfl) (decide_eq_false (by omega))) ?_)
                  refine WL.want rfl (WL1.give rfl (g_pickF rfl (.mk rfl rfl) (.mk (v := .bool _) rfl rfl)) ?_)
                  refine WL.want rfl (WL1.give rfl (g_move rfl (.mk (v := .bool _) rfl rfl)) ?_)
                  refine WL.wantG rfl rfl rfl rfl (WL1.give rfl (g_move rfl (.mk (v := .int _ _) rfl rfl)) ?_)
                  refine WL.wantG rfl rfl rfl rfl (WL1.give rfl (g_gt rfl (.mk rfl rfl) (.mk rfl rfl) (decide_eq_false (by omega))) ?_)
                  refine WL.wantG rfl rfl rfl rfl (WL1.give rfl (g_move rfl (.mk (v := .bool _) rfl rfl)) ?_)
                  refine WL.skipG rfl rfl rfl rfl rfl rfl ?_
                  refine WL.skipG rfl rfl rfl rfl rfl rfl ?_
                  refine WL.skipG rfl rfl rfl rfl rfl rfl ?_
                  refine WL.skipG rfl rfl rfl rfl rfl rfl ?_
                  refine WL.skipG rfl rfl rfl rfl rfl rfl ?_
                  refine WL.skipG rfl rfl rfl rfl rfl rfl ?_
                  refine WL.skipG rfl rfl rfl rfl rfl rfl ?_
                  refine WL.wantG rfl rfl rfl rfl (WL1.give rfl (g_pickF rfl (.mk rfl rfl) (.mk (v := .bool _) rfl rfl)) ?_)
                  refine WL.want rfl (WL1.give rfl (g_pickF rfl (.mk rfl rfl) (.mk (v := .bool _) rfl rfl)) ?_)
                  refine WL.nil ?_
                  (refine hK _ _ ?_; clear hK)
                  refine WC.cond_false (.mk rfl rfl) ?_
                  refine WC.skip ?_
                  (refine hK _ _ ?_; clear hK)
                  refine WC.region rfl ?_
                  refine WL.want rfl (WL1.give rfl (g_add rfl (.mk rfl rfl) (.mk rfl rfl) (IntWalk.i64_in _ (by omega))) ?_)
                  refine WL.want rfl (WL1.give rfl (g_move rfl (.mk (v := .int _ _) rfl rfl)) ?_)
                  refine WL.nil ?_
                  exact ⟨i + 1, (by repeat (first | exact trivial | refine ⟨rfl, ?_⟩)), .refl _, ⟨by omega, this⟩, by omega⟩
                · have hsb : IntKind.i64.wrap ((i : Int) - 1) = ((i - 1 : Nat) : Int) := by rw [IntWalk.i64_in _ (by omega)]; omega
                  by_cases q4 : y < x
                  · have := hnext (hok.2 ⟨q1, q2, .inr q4⟩)
                    (refine WC.seq ?_; intro K hK)
                    refine WC.region rfl ?_
                    refine WL.want rfl (WL1.give rfl (g_lt rfl (.mk rfl rfl) (.mk rfl rfl) (decide_eq_true (by omega))) ?_)
                    refine WL.nil ?_
                    (refine hK _ _ ?_; clear hK)
                    (refine WC.seq ?_; intro K hK)
                    refine WC.cond_true (.mk rfl rfl) ?_
                    refine WC.skip ?_
                    (refine hK _ _ ?_; clear hK)
                    (refine WC.seq ?_; intro K hK)
                    refine WC.block ?_
                    (refine WC.seq ?_; intro K hK)
                    refine WC.region rfl ?_
                    refine WL.want rfl (WL1.give rfl (g_move rfl (.mk (v := .int _ _) rfl rfl)) ?_)
                    refine WL.want rfl (WL1.give rfl (g_indexAddr (sz := 1) rfl (.mk rfl rfl) (.mk rfl rfl) rfl rfl rfl (by omega) (fun _ _ => sl_some hs (by omega))) ?_)
                    refine WL.want rfl (WL1.give rfl (g_load rfl (.mk rfl rfl) rfl (rd_sl hs hgv)) ?_)
                    refine WL.want rfl (WL1.give rfl (g_assign rfl (.mk (v := .int _ _) rfl rfl)) ?_)
                    refine WL.want rfl (WL1.give rfl (g_assign rfl (.mk (v := .int _ _) rfl rfl)) ?_)
                    refine WL.nil ?_
                    (refine hK _ _ ?_; clear hK)
                    (refine WC.seq ?_; intro K hK)
                    refine WC.region rfl ?_
                    refine WL.want rfl (WL1.give rfl (g_move rfl (.mk (v := .int _ _) rfl rfl)) ?_)
                    refine WL.want rfl (WL1.give rfl (g_lt rfl (.mk rfl rfl) (.mk rfl rfl) (decide_eq_false (by omega))) ?_)
                    refine WL.want rfl (WL1.give rfl (g_move rfl (.mk (v := .bool _) rfl rfl)) ?_)
                    refine WL.wantG rfl rfl rfl rfl (WL1.give rfl (g_move rfl (.mk (v := .int _ _) rfl rfl)) ?_)
                    refine WL.wantG rfl rfl rfl rfl (WL1.give rfl (g_move rfl (.mk (v := .int _ _) rfl rfl)) ?_)
                    refine WL.wantG rfl rfl rfl rfl (WL1.give rfl (g_ge rfl (.mk rfl rfl) (.mk rfl rfl) (decide_eq_false (by omega))) ?_)
                    refine WL.want rfl (WL1.give rfl (g_pickF rfl (.mk rfl rfl) (.mk (v := .bool _) rfl rfl)) ?_)
                    refine WL.want rfl (WL1.give rfl (g_move rfl (.mk (v := .bool _) rfl rfl)) ?_)
                    refine WL.wantG rfl rfl rfl rfl (WL1.give rfl (g_move rfl (.mk (v := .int _ _) rfl rfl)) ?_)
                    refine WL.wantG rfl rfl rfl rfl (WL1.give rfl (g_gt rfl (.mk rfl rfl) (.mk rfl rfl) (decide_eq_true (by omega))) ?_)
                    refine WL.wantG rfl rfl rfl rfl (WL1.give rfl (g_move rfl (.mk (v := .bool _) rfl rfl)) ?_)
                    refine WL.wantG rfl rfl rfl rfl (WL1.give rfl (g_move rfl (.mk (v := .slice _ _ _) rfl rfl)) ?_)
                    refine WL.wantG rfl rfl rfl rfl (WL1.give rfl (g_move rfl (.mk (v := .int _ _) rfl rfl)) ?_)
                    refine WL.wantG rfl rfl rfl rfl (WL1.give rfl (g_sub rfl (.mk rfl rfl) (.mk rfl rfl) hsb) ?_)
                    refine WL.wantG rfl rfl rfl rfl (WL1.give rfl (g_indexAddr (sz := 1) rfl (.mk rfl rfl) (.mk rfl rfl) rfl rfl rfl (by omega) (fun _ _ => sl_some hs (by omega))) ?_)
                    refine WL.wantG rfl rfl rfl rfl (WL1.give rfl (g_load rfl (.mk rfl rfl) rfl (rd_sl hs hgv2)) ?_)
                    refine WL.wantG rfl rfl rfl rfl (WL1.give rfl (g_move rfl (.mk (v := .int _ _) rfl rfl)) ?_)
                    refine WL.wantG rfl rfl rfl rfl (WL1.give rfl (g_ge rfl (.mk rfl rfl) (.mk rfl rfl) (decide_eq_false (by omega))) ?_)
                    refine WL.wantG rfl rfl rfl rfl (WL1.give rfl (g_pickT rfl (.mk rfl rfl) (.mk (v := .bool _) rfl rfl)) ?_)
                    refine WL.want rfl (WL1.give rfl (g_pickF rfl (.mk rfl rfl) (.mk (v := .bool _) rfl rfl)) ?_)
                    refine WL.nil ?_
                    (refine hK _ _ ?_; clear hK)
                    refine WC.cond_false (.mk rfl rfl) ?_
                    refine WC.skip ?_
                    (refine hK _ _ ?_; clear hK)
                    refine WC.region rfl ?_
                    refine WL.want rfl (WL1.give rfl (g_add rfl (.mk rfl rfl) (.mk rfl rfl) (IntWalk.i64_in _ (by omega))) ?_)
                    refine WL.want rfl (WL1.give rfl (g_move rfl (.mk (v := .int _ _) rfl rfl)) ?_)
                    refine WL.nil ?_
                    exact ⟨i + 1, (by repeat (first | exact trivial | refine ⟨rfl, ?_⟩)), .refl _, ⟨by omega, this⟩, by omega⟩
                  · (refine WC.seq ?_; intro K hK)
                    refine WC.region rfl ?_
                    refine WL.want rfl (WL1.give rfl (g_lt rfl (.mk rfl rfl) (.mk rfl rfl) (decide_eq_true (by omega))) ?_)
                    refine WL.nil ?_
                    (refine hK _ _ ?_; clear hK)
                    (refine WC.seq ?_; intro K hK)
                    refine WC.cond_true (.mk rfl rfl) ?_
                    refine WC.skip ?_
                    (refine hK _ _ ?_; clear hK)
                    (refine WC.seq ?_; intro K hK)
                    refine WC.block ?_
                    (refine WC.seq ?_; intro K hK)
                    refine WC.region rfl ?_
                    refine WL.want rfl (WL1.give rfl (g_move rfl (.mk (v := .int _ _) rfl rfl)) ?_)
                    refine WL.want rfl (WL1.give rfl (g_indexAddr (sz := 1) rfl (.mk rfl rfl) (.mk rfl rfl) rfl rfl rfl (by omega) (fun _ _ => sl_some hs (by omega))) ?_)
                    refine WL.want rfl (WL1.give rfl (g_load rfl (.mk rfl rfl) rfl (rd_sl hs hgv)) ?_)
                    refine WL.want rfl (WL1.give rfl (g_assign rfl (.mk (v := .int _ _) rfl rfl)) ?_)
                    refine WL.want rfl (WL1.give rfl (g_assign rfl (.mk (v := .int _ _) rfl rfl)) ?_)
                    refine WL.nil ?_
                    (refine hK _ _ ?_; clear hK)
                    (refine WC.seq ?_; intro K hK)
                    refine WC.region rfl ?_
                    refine WL.want rfl (WL1.give rfl (g_move rfl (.mk (v := .int _ _) rfl rfl)) ?_)
                    refine WL.want rfl (WL1.give rfl (g_lt rfl (.mk rfl rfl) (.mk rfl rfl) (decide_eq_false (by omega))) ?_)
                    refine WL.want rfl (WL1.give rfl (g_move rfl (.mk (v := .bool _) rfl rfl)) ?_)
                    refine WL.wantG rfl rfl rfl rfl (WL1.give rfl (g_move rfl (.mk (v := .int _ _) rfl rfl)) ?_)
                    refine WL.wantG rfl rfl rfl rfl (WL1.give rfl (g_move rfl (.mk (v := .int _ _) rfl rfl)) ?_)
                    refine WL.wantG rfl rfl rfl rfl (WL1.give rfl (g_ge rfl (.mk rfl rfl) (.mk rfl rfl) (decide_eq_false (by omega))) ?_)
                    refine WL.want rfl (WL1.give rfl (g_pickF rfl (.mk rfl rfl) (.mk (v := .bool _) rfl rfl)) ?_)
                    refine WL.want rfl (WL1.give rfl (g_move rfl (.mk (v := .bool _) rfl rfl)) ?_)
                    refine WL.wantG rfl rfl rfl rfl (WL1.give rfl (g_move rfl (.mk (v := .int _ _) rfl rfl)) ?_)
                    refine WL.wantG rfl rfl rfl rfl (WL1.give rfl (g_gt rfl (.mk rfl rfl) (.mk rfl rfl) (decide_eq_true (by omega))) ?_)
                    refine WL.wantG rfl rfl rfl rfl (WL1.give rfl (g_move rfl (.mk (v := .bool _) rfl rfl)) ?_)
                    refine WL.wantG rfl rfl rfl rfl (WL1.give rfl (g_move rfl (.mk (v := .slice _ _ _) rfl rfl)) ?_)
                    refine WL.wantG rfl rfl rfl rfl (WL1.give rfl (g_move rfl (.mk (v := .int _ _) rfl rfl)) ?_)
                    refine WL.wantG rfl rfl rfl rfl (WL1.give rfl (g_sub rfl (.mk rfl rfl) (.mk rfl rfl) hsb) ?_)
                    refine WL.wantG rfl rfl rfl rfl (WL1.give rfl (g_indexAddr (sz := 1) rfl (.mk rfl rfl) (.mk rfl rfl) rfl rfl rfl (by omega) (fun _ _ => sl_some hs (by omega))) ?_)
                    refine WL.wantG rfl rfl rfl rfl (WL1.give rfl (g_load rfl (.mk rfl rfl) rfl (rd_sl hs hgv2)) ?_)
                    refine WL.wantG rfl rfl rfl rfl (WL1.give rfl (g_move rfl (.mk (v := .int _ _) rfl rfl)) ?_)
                    refine WL.wantG rfl rfl rfl rfl (WL1.give rfl (g_ge rfl (.mk rfl rfl) (.mk rfl rfl) (decide_eq_true (by omega))) ?_)
                    refine WL.wantG rfl rfl rfl rfl (WL1.give rfl (g_pickT rfl (.mk rfl rfl) (.mk (v := .bool _) rfl rfl)) ?_)
                    refine WL.want rfl (WL1.give rfl (g_pickF rfl (.mk rfl rfl) (.mk (v := .bool _) rfl rfl)) ?_)
                    refine WL.nil ?_
                    (refine hK _ _ ?_; clear hK)
                    refine WC.cond_true (.mk rfl rfl) ?_
                    (refine WC.seq ?_; intro K hK)
                    refine WC.region rfl ?_
                    refine WL.want rfl (WL1.give rfl (g_assign rfl (.mk (v := .slice _ _ _) rfl rfl)) ?_)
                    refine WL.want rfl (WL1.give rfl (g_assign rfl (.mk (v := .int _ _) rfl rfl)) ?_)
                    refine WL.nil ?_
                    (refine hK _ _ ?_; clear hK)
                    refine WC.ret ?_
                    exact fun w' hw' => ⟨rfl, hw'.1⟩
              · (refine WC.seq ?_; intro K hK)
                refine WC.region rfl ?_
                refine WL.want rfl (WL1.give rfl (g_lt rfl (.mk rfl rfl) (.mk rfl rfl) (decide_eq_true (by omega))) ?_)
                refine WL.nil ?_
                (refine hK _ _ ?_; clear hK)
                (refine WC.seq ?_; intro K hK)
                refine WC.cond_true (.mk rfl rfl) ?_
                refine WC.skip ?_
                (refine hK _ _ ?_; clear hK)
                (refine WC.seq ?_; intro K hK)
                refine WC.block ?_
                (refine WC.seq ?_; intro K hK)
                refine WC.region rfl ?_
                refine WL.want rfl (WL1.give rfl (g_move rfl (.mk (v := .int _ _) rfl rfl)) ?_)
                refine WL.want rfl (WL1.give rfl (g_indexAddr (sz := 1) rfl (.mk rfl rfl) (.mk rfl rfl) rfl rfl rfl (by omega) (fun _ _ => sl_some hs (by omega))) ?_)
                refine WL.want rfl (WL1.give rfl (g_load rfl (.mk rfl rfl) rfl (rd_sl hs hgv)) ?_)
                refine WL.want rfl (WL1.give rfl (g_assign rfl (.mk (v := .int _ _) rfl rfl)) ?_)
                refine WL.want rfl (WL1.give rfl (g_assign rfl (.mk (v := .int _ _) rfl rfl)) ?_)
                refine WL.nil ?_
                (refine hK _ _ ?_; clear hK)
                (refine WC.seq ?_; intro K hK)
                refine WC.region rfl ?_
                refine WL.want rfl (WL1.give rfl (g_move rfl (.mk (v := .int _ _) rfl rfl)) ?_)
                refine WL.want rfl (WL1.give rfl (g_lt rfl (.mk rfl rfl) (.mk rfl rfl) (decide_eq_false (by omega))) ?_)
                refine WL.want rfl (WL1.give rfl (g_move rfl (.mk (v := .bool _) rfl rfl)) ?_)
                refine WL.wantG rfl rfl rfl rfl (WL1.give rfl (g_move rfl (.mk (v := .int _ _) rfl rfl)) ?_)
                refine WL.wantG rfl rfl rfl rfl (WL1.give rfl (g_move rfl (.mk (v := .int _ _) rfl rfl)) ?_)
                refine WL.wantG rfl rfl rfl rfl (WL1.give rfl (g_ge rfl (.mk rfl rfl) (.mk rfl rfl) (decide_eq_true (by omega))) ?_)
                refine WL.want rfl (WL1.give rfl (g_pickF rfl (.mk rfl rfl) (.mk (v := .bool _) rfl rfl)) ?_)
                refine WL.want rfl (WL1.give rfl (g_move rfl (.mk (v := .bool _) rfl rfl)) ?_)
                refine WL.skipG rfl rfl rfl rfl rfl rfl ?_
                refine WL.skipG rfl rfl rfl rfl rfl rfl ?_
                refine WL.skipG rfl rfl rfl rfl rfl rfl ?_
                refine WL.skipU rfl rfl rfl rfl rfl ?_
                refine WL.skipU rfl rfl rfl rfl rfl ?_
                refine WL.skipU rfl rfl rfl rfl rfl ?_
                refine WL.skipU rfl rfl rfl rfl rfl ?_
                refine WL.skipU rfl rfl rfl rfl rfl ?_
                refine WL.skipU rfl rfl rfl rfl rfl ?_
                refine WL.skipU rfl rfl rfl rfl rfl ?_
                refine WL.skipG rfl rfl rfl rfl rfl rfl ?_
                refine WL.want rfl (WL1.give rfl (g_pickT rfl (.mk rfl rfl) (.mk (v := .bool _) rfl rfl)) ?_)
                refine WL.nil ?_
                (refine hK _ _ ?_; clear hK)
                refine WC.cond_true (.mk rfl rfl) ?_
                (refine WC.seq ?_; intro K hK)
                refine WC.region rfl ?_
                refine WL.want rfl (WL1.give rfl (g_assign rfl (.mk (v := .slice _ _ _) rfl rfl)) ?_)
                refine WL.want rfl (WL1.give rfl (g_assign rfl (.mk (v := .int _ _) rfl rfl)) ?_)
                refine WL.nil ?_
                (refine hK _ _ ?_; clear hK)
                refine WC.ret ?_
                exact fun w' hw' => ⟨rfl, hw'.1⟩
            · (refine WC.seq ?_; intro K hK)
              refine WC.region rfl ?_
              refine WL.want rfl (WL1.give rfl (g_lt rfl (.mk rfl rfl) (.mk rfl rfl) (decide_eq_true (by omega))) ?_)
              refine WL.nil ?_
              (refine hK _ _ ?_; clear hK)
              (refine WC.seq ?_; intro K hK)
              refine WC.cond_true (.mk rfl rfl) ?_
              refine WC.skip ?_
              (refine hK _ _ ?_; clear hK)
              (refine WC.seq ?_; intro K hK)
              refine WC.block ?_
              (refine WC.seq ?_; intro K hK)
              refine WC.region rfl ?_
              refine WL.want rfl (WL1.give rfl (g_move rfl (.mk (v := .int _ _) rfl rfl)) ?_)
              refine WL.want rfl (WL1.give rfl (g_indexAddr (sz := 1) rfl (.mk rfl rfl) (.mk rfl rfl) rfl rfl rfl (by omega) (fun _ _ => sl_some hs (by omega))) ?_)
              refine WL.want rfl (WL1.give rfl (g_load rfl (.mk rfl rfl) rfl (rd_sl hs hgv)) ?_)
              refine WL.want rfl (WL1.give rfl (g_assign rfl (.mk (v := .int _ _) rfl rfl)) ?_)
              refine WL.want rfl (WL1.give rfl (g_assign rfl (.mk (v := .int _ _) rfl rfl)) ?_)
              refine WL.nil ?_
              (refine hK _ _ ?_; clear hK)
              (refine WC.seq ?_; intro K hK)
              refine WC.region rfl ?_
              refine WL.want rfl (WL1.give rfl (g_move rfl (.mk (v := .int _ _) rfl rfl)) ?_)
              refine WL.want rfl (WL1.give rfl (g_lt rfl (.mk rfl rfl) (.mk rfl rfl) (decide_eq_true (by omega))) ?_)
              refine WL.want rfl (WL1.give rfl (g_move rfl (.mk (v := .bool _) rfl rfl)) ?_)
              refine WL.skipG rfl rfl rfl rfl rfl rfl ?_
              refine WL.skipG rfl rfl rfl rfl rfl rfl ?_
              refine WL.skipG rfl rfl rfl rfl rfl rfl ?_
              refine WL.want rfl (WL1.give rfl (g_pickT rfl (.mk rfl rfl) (.mk (v := .bool _) rfl rfl)) ?_)
              refine WL.want rfl (WL1.give rfl (g_move rfl (.mk (v := .bool _) rfl rfl)) ?_)
              refine WL.skipG rfl rfl rfl rfl rfl rfl ?_
              refine WL.skipG rfl rfl rfl rfl rfl rfl ?_
              refine WL.skipG rfl rfl rfl rfl rfl rfl ?_
              refine WL.skipU rfl rfl rfl rfl rfl ?_
              refine WL.skipU rfl rfl rfl rfl rfl ?_
              refine WL.skipU rfl rfl rfl rfl rfl ?_
              refine WL.skipU rfl rfl rfl rfl rfl ?_
              refine WL.skipU rfl rfl rfl rfl rfl ?_
              refine WL.skipU rfl rfl rfl rfl rfl ?_
              refine WL.skipU rfl rfl rfl rfl rfl ?_
              refine WL.skipG rfl rfl rfl rfl rfl rfl ?_
              refine WL.want rfl (WL1.give rfl (g_pickT rfl (.mk rfl rfl) (.mk (v := .bool _) rfl rfl)) ?_)
              refine WL.nil ?_
              (refine hK _ _ ?_; clear hK)
              refine WC.cond_true (.mk rfl rfl) ?_
              (refine WC.seq ?_; intro K hK)
              refine WC.region rfl ?_
              refine WL.want rfl (WL1.give rfl (g_assign rfl (.mk (v := .slice _ _ _) rfl rfl)) ?_)
              refine WL.want rfl (WL1.give rfl (g_assign rfl (.mk (v := .int _ _) rfl rfl)) ?_)
              refine WL.nil ?_
              (refine hK _ _ ?_; clear hK)
              refine WC.ret ?_
              exact fun w' hw' => ⟨rfl, hw'.1⟩
          · obtain rfl : i = fl.length := by omega
            exact absurd hpi hbad
        · refine calls_wc (args := [iv wd, .slice A fl.length c, iv to]) [6, 7] [] Try.func12 rfl Try.ntmps12 rfl rfl rfl rfl (H.refl w) ?_
          (refine WC.seq ?_; intro K hK)
          refine WC.region rfl ?_
          refine WL.want rfl (WL1.give rfl (g_assign rfl (.mk (v := .slice _ _ _) rfl rfl)) ?_)
          refine WL.want rfl (WL1.give rfl (g_assign rfl (.mk (v := .int _ _) rfl rfl)) ?_)
          refine WL.nil ?_
          (refine hK _ _ ?_; clear hK)
          (refine WC.seq ?_; intro K hK)
          (refine WC.seq ?_; intro K hK)
          refine WC.region rfl ?_
          refine WL.want rfl (WL1.give rfl (g_move rfl (.mk (v := .int _ _) rfl rfl)) ?_)
          refine WL.want rfl (WL1.callP rfl rfl rfl (.cons (.mk (v := .int _ _) rfl rfl) .nil) (fun w hw => hpos w) ?_)
          refine WL.want rfl (WL1.give rfl (g_notT rfl (.mk rfl rfl)) ?_)
          refine WL.want rfl (WL1.give rfl (g_move rfl (.mk (v := .bool _) rfl rfl)) ?_)
          refine WL.wantG rfl rfl rfl rfl (WL1.give rfl (g_move rfl (.mk (v := .slice _ _ _) rfl rfl)) ?_)
          refine WL.wantG rfl rfl rfl rfl (WL1.give rfl (g_len rfl (.mk rfl rfl) rfl) ?_)
          refine WL.wantG rfl rfl rfl rfl (WL1.give rfl (g_move rfl (.mk (v := .int _ _) rfl rfl)) ?_)
          refine WL.wantG rfl rfl rfl rfl (WL1.give rfl (g_sub rfl (.mk rfl rfl) (.mk rfl rfl) hsub) ?_)
          refine WL.wantG rfl rfl rfl rfl (WL1.give rfl (g_ne rfl (.mk rfl rfl) (.mk rfl rfl) (decide_eq_false (by omega))) ?_)
          refine WL.want rfl (WL1.give rfl (g_pickF rfl (.mk rfl rfl) (.mk (v := .bool _) rfl rfl)) ?_)
          refine WL.want rfl (WL1.give rfl (g_move rfl (.mk (v := .bool _) rfl rfl)) ?_)
          refine WL.wantG rfl rfl rfl rfl (WL1.give rfl (g_move rfl (.mk (v := .int _ _) rfl rfl)) ?_)
          refine WL.wantG rfl rfl rfl rfl (WL1.give rfl (g_lt rfl (.mk rfl rfl) (.mk rfl rfl) (decide_eq_false (by omega))) ?_)
          refine WL.want rfl (WL1.give rfl (g_pickF rfl (.mk rfl rfl) (.mk (v := .bool _) rfl rfl)) ?_)
          refine WL.want rfl (WL1.give rfl (g_move rfl (.mk (v := .bool _) rfl rfl)) ?_)
          refine WL.wantG rfl rfl rfl rfl (WL1.give rfl (g_move rfl (.mk (v := .int _ _) rfl rfl)) ?_)
          refine WL.wantG rfl rfl rfl rfl (WL1.give rfl (g_move rfl (.mk (v := .int _ _) rfl rfl)) ?_)
          refine WL.wantG rfl rfl rfl rfl (WL1.give rfl (g_ge rfl (.mk rfl rfl) (.mk rfl rfl) (decide_eq_true (by omega))) ?_)
          refine WL.want rfl (WL1.give rfl (g_pickF rfl (.mk rfl rfl) (.mk (v := .bool _) rfl rfl)) ?_)
          refine WL.nil ?_
          (refine hK _ _ ?_; clear hK)
          refine WC.cond_true (.mk rfl rfl) ?_
          (refine WC.seq ?_; intro K hK)
          refine WC.region rfl ?_
          refine WL.want rfl (WL1.give rfl (g_assign rfl (.mk (v := .slice _ _ _) rfl rfl)) ?_)
          refine WL.want rfl (WL1.give rfl (g_assign rfl (.mk (v := .int _ _) rfl rfl)) ?_)
          refine WL.nil ?_
          (refine hK _ _ ?_; clear hK)
          refine WC.ret ?_
          exact fun w' hw' => ⟨rfl, hw'.1⟩
      · refine calls_wc (args := [iv wd, .slice A fl.length c, iv to]) [6, 7] [] Try.func12 rfl Try.ntmps12 rfl rfl rfl rfl (H.refl w) ?_
        (refine WC.seq ?_; intro K hK)
        refine WC.region rfl ?_
        refine WL.want rfl (WL1.give rfl (g_assign rfl (.mk (v := .slice _ _ _) rfl rfl)) ?_)
        refine WL.want rfl (WL1.give rfl (g_assign rfl (.mk (v := .int _ _) rfl rfl)) ?_)
        refine WL.nil ?_
        (refine hK _ _ ?_; clear hK)
        (refine WC.seq ?_; intro K hK)
        (refine WC.seq ?_; intro K hK)
        refine WC.region rfl ?_
        refine WL.want rfl (WL1.give rfl (g_move rfl (.mk (v := .int _ _) rfl rfl)) ?_)
        refine WL.want rfl (WL1.callP rfl rfl rfl (.cons (.mk (v := .int _ _) rfl rfl) .nil) (fun w hw => hpos w) ?_)
        refine WL.want rfl (WL1.give rfl (g_notT rfl (.mk rfl rfl)) ?_)
        refine WL.want rfl (WL1.give rfl (g_move rfl (.mk (v := .bool _) rfl rfl)) ?_)
        refine WL.wantG rfl rfl rfl rfl (WL1.give rfl (g_move rfl (.mk (v := .slice _ _ _) rfl rfl)) ?_)
        refine WL.wantG rfl rfl rfl rfl (WL1.give rfl (g_len rfl (.mk rfl rfl) rfl) ?_)
        refine WL.wantG rfl rfl rfl rfl (WL1.give rfl (g_move rfl (.mk (v := .int _ _) rfl rfl)) ?_)
        refine WL.wantG rfl rfl rfl rfl (WL1.give rfl (g_sub rfl (.mk rfl rfl) (.mk rfl rfl) hsub) ?_)
        refine WL.wantG rfl rfl rfl rfl (WL1.give rfl (g_ne rfl (.mk rfl rfl) (.mk rfl rfl) (decide_eq_false (by omega))) ?_)
        refine WL.want rfl (WL1.give rfl (g_pickF rfl (.mk rfl rfl) (.mk (v := .bool _) rfl rfl)) ?_)
        refine WL.want rfl (WL1.give rfl (g_move rfl (.mk (v := .bool _) rfl rfl)) ?_)
        refine WL.wantG rfl rfl rfl rfl (WL1.give rfl (g_move rfl (.mk (v := .int _ _) rfl rfl)) ?_)
        refine WL.wantG rfl rfl rfl rfl (WL1.give rfl (g_lt rfl (.mk rfl rfl) (.mk rfl rfl) (decide_eq_true (by omega))) ?_)
        refine WL.want rfl (WL1.give rfl (g_pickF rfl (.mk rfl rfl) (.mk (v := .bool _) rfl rfl)) ?_)
        refine WL.want rfl (WL1.give rfl (g_move rfl (.mk (v := .bool _) rfl rfl)) ?_)
        refine WL.skipG rfl rfl rfl rfl rfl rfl ?_
        refine WL.skipG rfl rfl rfl rfl rfl rfl ?_
        refine WL.skipG rfl rfl rfl rfl rfl rfl ?_
        refine WL.want rfl (WL1.give rfl (g_pickT rfl (.mk rfl rfl) (.mk (v := .bool _) rfl rfl)) ?_)
        refine WL.nil ?_
        (refine hK _ _ ?_; clear hK)
        refine WC.cond_true (.mk rfl rfl) ?_
        (refine WC.seq ?_; intro K hK)
        refine WC.region rfl ?_
        refine WL.want rfl (WL1.give rfl (g_assign rfl (.mk (v := .slice _ _ _) rfl rfl)) ?_)
        refine WL.want rfl (WL1.give rfl (g_assign rfl (.mk (v := .int _ _) rfl rfl)) ?_)
        refine WL.nil ?_
        (refine hK _ _ ?_; clear hK)
        refine WC.ret ?_
        exact fun w' hw' => ⟨rfl, hw'.1⟩
    · refine calls_wc (args := [iv wd, .slice A fl.length c, iv to]) [6, 7] [] Try.func12 rfl Try.ntmps12 rfl rfl rfl rfl (H.refl w) ?_
      (refine WC.seq ?_; intro K hK)
      refine WC.region rfl ?_
      refine WL.want rfl (WL1.give rfl (g_assign rfl (.mk (v := .slice _ _ _) rfl rfl)) ?_)
      refine WL.want rfl (WL1.give rfl (g_assign rfl (.mk (v := .int _ _) rfl rfl)) ?_)
      refine WL.nil ?_
      (refine hK _ _ ?_; clear hK)
      (refine WC.seq ?_; intro K hK)
      (refine WC.seq ?_; intro K hK)
      refine WC.region rfl ?_
      refine WL.want rfl (WL1.give rfl (g_move rfl (.mk (v := .int _ _) rfl rfl)) ?_)
      refine WL.want rfl (WL1.callP rfl rfl rfl (.cons (.mk (v := .int _ _) rfl rfl) .nil) (fun w hw => hpos w) ?_)
      refine WL.want rfl (WL1.give rfl (g_notT rfl (.mk rfl rfl)) ?_)
      refine WL.want rfl (WL1.give rfl (g_move rfl (.mk (v := .bool _) rfl rfl)) ?_)
      refine WL.wantG rfl rfl rfl rfl (WL1.give rfl (g_move rfl (.mk (v := .slice _ _ _) rfl rfl)) ?_)
      refine WL.wantG rfl rfl rfl rfl (WL1.give rfl (g_len rfl (.mk rfl rfl) rfl) ?_)
      refine WL.wantG rfl rfl rfl rfl (WL1.give rfl (g_move rfl (.mk (v := .int _ _) rfl rfl)) ?_)
      refine WL.wantG rfl rfl rfl rfl (WL1.give rfl (g_sub rfl (.mk rfl rfl) (.mk rfl rfl) hsub) ?_)
      refine WL.wantG rfl rfl rfl rfl (WL1.give rfl (g_ne rfl (.mk rfl rfl) (.mk rfl rfl) (decide_eq_true (by omega))) ?_)
      refine WL.want rfl (WL1.give rfl (g_pickF rfl (.mk rfl rfl) (.mk (v := .bool _) rfl rfl)) ?_)
      refine WL.want rfl (WL1.give rfl (g_move rfl (.mk (v := .bool _) rfl rfl)) ?_)
      refine WL.skipG rfl rfl rfl rfl rfl rfl ?_
      refine WL.skipG rfl rfl rfl rfl rfl rfl ?_
      refine WL.want rfl (WL1.give rfl (g_pickT rfl (.mk rfl rfl) (.mk (v := .bool _) rfl rfl)) ?_)
      refine WL.want rfl (WL1.give rfl (g_move rfl (.mk (v := .bool _) rfl rfl)) ?_)
      refine WL.skipG rfl rfl rfl rfl rfl rfl ?_
      refine WL.skipG rfl rfl rfl rfl rfl rfl ?_
      refine WL.skipG rfl rfl rfl rfl rfl rfl ?_
      refine WL.want rfl (WL1.give rfl (g_pickT rfl (.mk rfl rfl) (.mk (v := .bool _) rfl rfl)) ?_)
      refine WL.nil ?_
      (refine hK _ _ ?_; clear hK)
      refine WC.cond_true (.mk rfl rfl) ?_
      (refine WC.seq ?_; intro K hK)
      refine WC.region rfl ?_
      refine WL.want rfl (WL1.give rfl (g_assign rfl (.mk (v := .slice _ _ _) rfl rfl)) ?_)
      refine WL.want rfl (WL1.give rfl (g_assign rfl (.mk (v := .int _ _) rfl rfl)) ?_)
      refine WL.nil ?_
      (refine hK _ _ ?_; clear hK)
      refine WC.ret ?_
      exact fun w' hw' => ⟨rfl, hw'.1⟩
  · rw [decide_eq_false h1] at hpos
    refine calls_wc (args := [iv wd, .slice A fl.length c, iv to]) [6, 7] [] Try.func12 rfl Try.ntmps12 rfl rfl rfl rfl (H.refl w) ?_
    (refine WC.seq ?_; intro K hK)
    refine WC.region rfl ?_
    refine WL.want rfl (WL1.give rfl (g_assign rfl (.mk (v := .slice _ _ _) rfl rfl)) ?_)
    refine WL.want rfl (WL1.give rfl (g_assign rfl (.mk (v := .int _ _) rfl rfl)) ?_)
    refine WL.nil ?_
    (refine hK _ _ ?_; clear hK)
    (refine WC.seq ?_; intro K hK)
    (refine WC.seq ?_; intro K hK)
    refine WC.region rfl ?_
    refine WL.want rfl (WL1.give rfl (g_move rfl (.mk (v := .int _ _) rfl rfl)) ?_)
    refine WL.want rfl (WL1.callP rfl rfl rfl (.cons (.mk (v := .int _ _) rfl rfl) .nil) (fun w hw => hpos w) ?_)
    refine WL.want rfl (WL1.give rfl (g_notF rfl (.mk rfl rfl)) ?_)
    refine WL.want rfl (WL1.give rfl (g_move rfl (.mk (v := .bool _) rfl rfl)) ?_)
    refine WL.skipG rfl rfl rfl rfl rfl rfl ?_
    refine WL.skipG rfl rfl rfl rfl rfl rfl ?_
    refine WL.skipG rfl rfl rfl rfl rfl rfl ?_
    refine WL.skipG rfl rfl rfl rfl rfl rfl ?_
    refine WL.skipG rfl rfl rfl rfl rfl rfl ?_
    refine WL.want rfl (WL1.give rfl (g_pickT rfl (.mk rfl rfl) (.mk (v := .bool _) rfl rfl)) ?_)
    refine WL.want rfl (WL1.give rfl (g_move rfl (.mk (v := .bool _) rfl rfl)) ?_)
    refine WL.skipG rfl rfl rfl rfl rfl rfl ?_
    refine WL.skipG rfl rfl rfl rfl rfl rfl ?_
    refine WL.want rfl (WL1.give rfl (g_pickT rfl (.mk rfl rfl) (.mk (v := .bool _) rfl rfl)) ?_)
    refine WL.want rfl (WL1.give rfl (g_move rfl (.mk (v := .bool _) rfl rfl)) ?_)
    refine WL.skipG rfl rfl rfl rfl rfl rfl ?_
    refine WL.skipG rfl rfl rfl rfl rfl rfl ?_
    refine WL.skipG rfl rfl rfl rfl rfl rfl ?_
    refine WL.want rfl (WL1.give rfl (g_pickT rfl (.mk rfl rfl) (.mk (v := .bool _) rfl rfl)) ?_)
    refine WL.nil ?_
    (refine hK _ _ ?_; clear hK)
    refine WC.cond_true (.mk rfl rfl) ?_
    (refine WC.seq ?_; intro K hK)
    refine WC.region rfl ?_
    refine WL.want rfl (WL1.give rfl (g_assign rfl (.mk (v := .slice _ _ _) rfl rfl)) ?_)
    refine WL.want rfl (WL1.give rfl (g_assign rfl (.mk (v := .int _ _) rfl rfl)) ?_)
    refine WL.nil ?_
    (refine hK _ _ ?_; clear hK)
    refine WC.ret ?_
    exact fun w' hw' => ⟨rfl, hw'.1⟩
end Go.Proofs.Ytlcddlipcdimeaa
namespace Go.Proofs.Ytlcddlipcdimeaa
open Go.RowKit
theorem cnt_set {l : List Bool} {j : Nat} (hj : j < l.length) : ∀ k, cnt (l.set j true) k ≤ cnt l k + 1 ∧ (k ≤ j → cnt (l.set j true) k = cnt l k)
  | 0 => ⟨Nat.zero_le _, fun _ => rfl⟩
  | k + 1 => by
    obtain ⟨h1, h2⟩ := cnt_set hj k
    have e1 : cnt (l.set j true) (k + 1) = cnt (l.set j true) k + if nth (l.set j true) k then 1 else 0 := rfl
    have e2 : cnt l (k + 1) = cnt l k + if nth l k then 1 else 0 := rfl
    rw [nth_set_eq hj] at e1
    by_cases e : k = j
    · rw [if_pos e, if_pos rfl, h2 (by omega)] at e1
      exact ⟨by omega, fun h => by omega⟩
    · rw [if_neg e] at e1
      exact ⟨by omega, fun h => by rw [e1, e2, h2 (by omega)]⟩
theorem cnt_none {l : List Bool} : ∀ k, (∀ q, q < k → nth l q = false) → cnt l k = 0
  | 0, _ => rfl
  | k + 1, h => by
    have e : cnt l (k + 1) = cnt l k + if nth l k then 1 else 0 := rfl
    rw [h k (by omega), cnt_none k fun q hq => h q (by omega)] at e
    exact e
theorem mksP_cnt {m : Nat} (l : List G) : ∀ i k, k ≤ m → cnt (mksP m l i) k ≤ i
  | 0, k, hk => by
    rw [cnt_none k fun q hq => by rw [mksP_nth _ _ (by omega)]; simp]; exact Nat.le_refl _
  | i + 1, k, hk => by
    have ih := mksP_cnt (m := m) l i k hk
    by_cases h240 : (nth l i).val < 240
    · by_cases hm : 0 < m
      · rw [← mksP_set hm h240]
        have := (cnt_set (l := mksP m l i) (j := (nth l i).val % m) (by rw [mksP_len]; exact Nat.mod_lt _ hm) k).1
        omega
      · have : k = 0 := by omega
        subst this; exact Nat.zero_le _
    · rw [← mksP_same h240]; omega
theorem cnt_mono {l : List Bool} (a : Nat) : ∀ d, cnt l a ≤ cnt l (a + d) ∧ cnt l (a + d) ≤ cnt l a + d
  | 0 => ⟨Nat.le_refl _, Nat.le_refl _⟩
  | d + 1 => by
    obtain ⟨h1, h2⟩ := cnt_mono (l := l) a d
    have e : cnt l (a + (d + 1)) = cnt l (a + d) + if nth l (a + d) then 1 else 0 := rfl
    split at e <;> omega
theorem cnt_tail {l : List Bool} {a : Nat} : ∀ d, (∀ q, a ≤ q → q < a + d → nth l q = true) → cnt l (a + d) = cnt l a + d
  | 0, _ => rfl
  | d + 1, h => by
    have e : cnt l (a + (d + 1)) = cnt l (a + d) + if nth l (a + d) then 1 else 0 := rfl
    rw [h (a + d) (by omega) (by omega), cnt_tail d fun q h1 h2 => h q h1 (by omega)] at e
    exact e
/-- The last k are marked too. -/
def padB (bs : List Bool) (k : Nat) : List Bool := (List.range bs.length).map fun q => nth bs q || decide (bs.length ≤ q + k)
theorem padB_len (bs : List Bool) (k : Nat) : (padB bs k).length = bs.length := by simp [padB]
theorem padB_nth {bs : List Bool} {k q : Nat} (h : q < bs.length) : nth (padB bs k) q = (nth bs q || decide (bs.length ≤ q + k)) := nth_range _ h
theorem padB_zero (bs : List Bool) : padB bs 0 = bs := list_ext_nth (padB_len _ _) fun q hq => by
  have hq' : q < bs.length := by rw [padB_len] at hq; exact hq
  rw [padB_nth hq', decide_eq_false (by omega), Bool.or_false]
theorem padB_set {bs : List Bool} {k : Nat} (h : k < bs.length) : (padB bs k).set (bs.length - 1 - k) true = padB bs (k + 1) := list_ext_nth (by rw [List.length_set, padB_len, padB_len]) fun q hq => by
  have hq' : q < bs.length := by rw [List.length_set, padB_len] at hq; exact hq
  rw [nth_set_eq (by rw [padB_len]; omega), padB_nth hq', padB_nth hq']
  by_cases e : q = bs.length - 1 - k
  · rw [if_pos e, decide_eq_true (by omega : bs.length ≤ q + (k + 1)), Bool.or_true]
  · rw [if_neg e]
    congr 1
    exact decide_eq_decide.2 (by omega)
theorem padB_cnt {bs : List Bool} {k : Nat} (h : k ≤ bs.length) : k ≤ cnt (padB bs k) bs.length := by
  have := cnt_tail (l := padB bs k) (a := bs.length - k) k fun q h1 h2 => by
    rw [padB_nth (by omega), decide_eq_true (by omega), Bool.or_true]
  rw [show bs.length - k + k = bs.length from by omega] at this
  omega
end Go.Proofs.Ytlcddlipcdimeaa
