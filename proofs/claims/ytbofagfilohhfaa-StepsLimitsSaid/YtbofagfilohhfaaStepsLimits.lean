/- StepsLimits answers true, whatever the numbers: at most 64 machines are accepted, nil machines, wrong weights and negative numbers are rejected, identifiers are never used again. No condition. -/
import Derived.Test.YtbofagfilohhfaaStp9
import Derived.Test.YtbofagfilohhfaaOpen
namespace Go.Proofs.Ytbofagfilohhfaa.LStepsLimits
set_option maxRecDepth 20000
open Go.RowKit Go.WideShapes Go.ChangeShapes Go.ChangeAt
attribute [local irreducible] Calls

/-- What holds after i calls of Add. -/
def Lim (es : List En) (i : Nat) : Prop := es.length = min i 64 ∧ ∀ k, k < es.length → (nth es k).id = (k : Int) + 1
theorem Lim.zero : Lim [] 0 := ⟨rfl, fun k hk => absurd hk (by simp)⟩
theorem nth_app {α : Type} [Inhabited α] {l : List α} {a : α} {k : Nat} (h : k < l.length + 1) : nth (l ++ [a]) k = if k = l.length then a else nth l k := by
  rw [nth_eq (by simpa using h)]
  by_cases e : k = l.length
  · subst e; rw [if_pos rfl]; simp
  · rw [if_neg e, List.getElem_append_left (by omega), nth_eq (by omega)]
theorem Lim.add {es : List En} {i p j : Nat} {w : Int} (h : Lim es i) (hi : i < 64) : Lim (es ++ [⟨p, (i : Int) + 1, w, 0, j⟩]) (i + 1) := by
  have hl : es.length = i := by rw [h.1]; omega
  refine ⟨by simp [hl]; omega, fun k hk => ?_⟩
  simp at hk
  rw [nth_app hk]
  by_cases e : k = es.length
  · rw [if_pos e, e, hl]
  · rw [if_neg e]; exact h.2 k (by omega)
theorem Lim.full {es : List En} {i : Nat} (h : Lim es i) (hi : 64 ≤ i) : Lim es (i + 1) := ⟨by rw [h.1]; omega, h.2⟩
theorem Lim.three {es : List En} {i : Nat} (h : Lim es i) (hi : 3 ≤ i) : idN es 3 = 2 := by
  have hl := h.1
  exact idN_at (by omega) (fun k hk => by rw [h.2 k (by omega)]; omega) (by rw [h.2 2 (by omega)]; rfl)
theorem Lim.gone {es : List En} {i : Nat} (h : Lim es i) (hi : 3 ≤ i) : idN (es.eraseIdx 2) 3 = (es.eraseIdx 2).length := by
  have hl := h.1
  refine idN_none fun k hk => ?_
  rw [List.length_eraseIdx_of_lt (by omega)] at hk
  rw [nth_eq (by rw [List.length_eraseIdx_of_lt (by omega)]; exact hk), List.getElem_eraseIdx]
  split
  · rw [← nth_eq, h.2 k (by omega)]; omega
  · rw [← nth_eq, h.2 (k + 1) (by omega)]; omega
set_option maxRecDepth 20000 in
set_option maxHeartbeats 1000000 in
theorem walk (w : World) (n : Int) (n1 : 0 ≤ n) (n2 : n ≤ 255) (x : Int) (x1 : -9223372036854775808 ≤ x) (x2 : x ≤ 9223372036854775807) :
    Calls Try.prog 3 #[.int .u8 n, iv x] w fun en w' => en = .returned (.bool true) ∧ Below w.heap.size w w' := by
  have hr : n.tmod 8 = n % 8 := Int.tmod_eq_emod_of_nonneg n1
  obtain ⟨m, hm⟩ : ∃ m : Nat, (m : Int) = n % 8 := ⟨(n % 8).toNat, by omega⟩
  have hr' : n.tmod 8 = (m : Int) := by omega
  have hm8 : m < 8 := by omega
  clear hr hm
  refine calls_wc (args := [.int .u8 n, iv x]) [4] [] Try.func3 rfl Try.ntmps3 rfl rfl rfl rfl (H.refl _) ?_
  (refine WC.seq ?_; intro K hK)
  refine WC.region rfl ?_
  refine WL.want rfl (WL1.give rfl (g_assign rfl (.mk (v := .bool _) rfl rfl)) ?_)
  refine WL.nil ?_
  (refine hK _ _ ?_; clear hK)
  (refine WC.seq ?_; intro K hK)
  (refine WC.seq ?_; intro K hK)
  refine WC.region rfl ?_
  refine WL.want rfl (WL1.callP rfl rfl rfl .nil (fun w hw => awake_e) ?_)
  refine WL.want rfl (WL1.give rfl (g_notT rfl (.mk rfl rfl)) ?_)
  refine WL.nil ?_
  (refine hK _ _ ?_; clear hK)
  refine WC.cond_false (.mk rfl rfl) ?_
  refine WC.skip ?_
  (refine hK _ _ ?_; clear hK)
  (refine WC.seq ?_; intro K hK)
  refine WC.region rfl ?_
  (refine WL.want rfl (WL1.callN rfl rfl rfl .nil (fun w hw => new_n) ?_); rintro _ _ ⟨S, rfl, rfl⟩)
  refine WL.want rfl (WL1.give rfl (g_assign rfl (.mk (v := cellPtr _ _) rfl rfl)) ?_)
  refine WL.nil ?_
  (refine hK _ _ ?_; clear hK)
  (refine WC.seq ?_; intro K hK)
  (refine WC.seq ?_; intro K hK)
  refine WC.region rfl ?_
  refine WL.want rfl (WL1.give rfl (g_move rfl (.mk (v := .int _ _) rfl rfl)) ?_)
  refine WL.want rfl (WL1.give rfl (g_rem rfl (.mk rfl rfl) (.mk rfl rfl) (by omega) hr') ?_)
  refine WL.want rfl (WL1.give rfl (g_conv rfl rfl rfl (.mk rfl rfl) (IntWalk.i64_in _ (by omega))) ?_)
  refine WL.want rfl (WL1.give rfl (g_add rfl (.mk rfl rfl) (.mk rfl rfl) (IntWalk.i64_in _ (by omega))) ?_)
  refine WL.want rfl (WL1.give rfl (g_move rfl (.mk (v := .int _ _) rfl rfl)) ?_)
  refine WL.nil ?_
  (refine hK _ _ ?_; clear hK)
  refine WC.block ?_
  refine WC.loopI4 (4611686018360279504) (fun (i : Nat) (A : Option Addr) (c : Nat) (es : List En) => [(26, iv i)]) (fun i A c es => schd S A c es.length es ++ []) (fun i _ _ es => i ≤ 60 + m ∧ Lim es i) (fun i _ _ _ => 60 + m - i) 0 none 0 [] ⟨rfl, trivial⟩ (Imp.refl _) ⟨by omega, Lim.zero⟩ ?_
  rintro i A c es U ⟨hi, hL⟩
  have hl := hL.1
  by_cases hlt : i < 60 + m
  · by_cases h64 : i < 64
    · have hli : es.length = i := by omega
      have hLa := fun p j => hL.add (p := p) (j := j) (w := 1) h64
      (refine WC.seq ?_; intro K hK)
      refine WC.region rfl ?_
      refine WL.want rfl (WL1.give rfl (g_lt rfl (.mk rfl rfl) (.mk rfl rfl) (decide_eq_true (by omega))) ?_)
      refine WL.nil ?_
      (refine hK _ _ ?_; clear hK)
      (refine WC.seq ?_; intro K hK)
      refine WC.cond_true (.mk rfl rfl) ?_
      refine WC.skip ?_
      (refine hK _ _ ?_; clear hK)
      (refine WC.seq ?_; intro K hK)
      refine WC.block ?_
      (refine WC.seq ?_; intro K hK)
      refine WC.region rfl ?_
      refine WL.want rfl (WL1.give rfl (g_move rfl (.mk (v := .int _ _) rfl rfl)) ?_)
      refine WL.want rfl (WL1.give rfl (g_assign rfl (.mk (v := .int _ _) rfl rfl)) ?_)
      refine WL.nil ?_
      (refine hK _ _ ?_; clear hK)
      (refine WC.seq ?_; intro K hK)
      refine WC.region rfl ?_
      refine WL.want rfl (WL1.give rfl (g_move rfl (.mk (v := cellPtr _ _) rfl rfl)) ?_)
      refine WL.want rfl (WL1.give rfl (g_build (cs := [_, _]) rfl rfl rfl rfl .nil rfl rfl rfl) ?_)
      refine WL.want rfl (WL1.box rfl rfl (.mk (v := .agg _) rfl rfl) rfl (fun b32 => ?_))
      refine WL.want rfl (WL1.give rfl (g_mkIface rfl (.mk (v := cellPtr _ _) rfl rfl) rfl) ?_)
      (refine WL.want rfl (WL1.callF rfl rfl rfl (.cons (.mk (v := cellPtr _ _) rfl rfl) (.cons (.mk (v := .iface _ _) rfl rfl) (.cons (.mk (v := .int _ _) rfl rfl) .nil))) (fun w hw => add_ok (j := b32) (x := 1) (by omega) (by decide) (by decide) (by omega) (by omega) (hw.perm (List.perm_middle (l₁ := schd S A c es.length es)).symm)) ?_); rintro _ _ ⟨A1, c1, p1, rfl, rfl⟩)
      refine WL.want rfl (WL1.give rfl (g_move rfl (.mk (v := .tuple _) rfl rfl)) ?_)
      refine WL.want rfl (WL1.give rfl (g_extract rfl (.mk rfl rfl) rfl) ?_)
      refine WL.want rfl (WL1.give rfl (g_extract rfl (.mk rfl rfl) rfl) ?_)
      refine WL.want rfl (WL1.give rfl (g_assign rfl (.mk (v := .int _ _) rfl rfl)) ?_)
      refine WL.want rfl (WL1.give rfl (g_assign rfl (.mk (v := .int _ _) rfl rfl)) ?_)
      refine WL.nil ?_
      (refine hK _ _ ?_; clear hK)
      (refine WC.seq ?_; intro K hK)
      refine WC.region rfl ?_
      refine WL.want rfl (WL1.give rfl (g_move rfl (.mk (v := .int _ _) rfl rfl)) ?_)
      refine WL.want rfl (WL1.give rfl (g_lt rfl (.mk rfl rfl) (.mk rfl rfl) (decide_eq_true (by omega))) ?_)
      refine WL.want rfl (WL1.give rfl (g_move rfl (.mk (v := .bool _) rfl rfl)) ?_)
      refine WL.wantG rfl rfl rfl rfl (WL1.give rfl (g_move rfl (.mk (v := .int _ _) rfl rfl)) ?_)
      refine WL.wantG rfl rfl rfl rfl (WL1.give rfl (g_move rfl (.mk (v := .int _ _) rfl rfl)) ?_)
      refine WL.wantG rfl rfl rfl rfl (WL1.give rfl (g_add rfl (.mk rfl rfl) (.mk rfl rfl) (IntWalk.i64_in _ (by omega))) ?_)
      refine WL.wantG rfl rfl rfl rfl (WL1.give rfl (g_ne rfl (.mk rfl rfl) (.mk rfl rfl) (decide_eq_false (by omega))) ?_)
      refine WL.wantG rfl rfl rfl rfl (WL1.give rfl (g_move rfl (.mk (v := .bool _) rfl rfl)) ?_)
      refine WL.wantG rfl rfl rfl rfl (WL1.give rfl (g_move rfl (.mk (v := .int _ _) rfl rfl)) ?_)
      refine WL.wantG rfl rfl rfl rfl (WL1.give rfl (g_ne rfl (.mk rfl rfl) (.mk rfl rfl) (decide_eq_false (by omega))) ?_)
      refine WL.wantG rfl rfl rfl rfl (WL1.give rfl (g_pickF rfl (.mk rfl rfl) (.mk (v := .bool _) rfl rfl)) ?_)
      refine WL.want rfl (WL1.give rfl (g_pickT rfl (.mk rfl rfl) (.mk (v := .bool _) rfl rfl)) ?_)
      refine WL.want rfl (WL1.give rfl (g_move rfl (.mk (v := .bool _) rfl rfl)) ?_)
      refine WL.wantG rfl rfl rfl rfl (WL1.give rfl (g_move rfl (.mk (v := .int _ _) rfl rfl)) ?_)
      refine WL.wantG rfl rfl rfl rfl (WL1.give rfl (g_ge rfl (.mk rfl rfl) (.mk rfl rfl) (decide_eq_false (by omega))) ?_)
      refine WL.wantG rfl rfl rfl rfl (WL1.give rfl (g_move rfl (.mk (v := .bool _) rfl rfl)) ?_)
      refine WL.skipG rfl rfl rfl rfl rfl rfl ?_
      refine WL.skipG rfl rfl rfl rfl rfl rfl ?_
      refine WL.skipG rfl rfl rfl rfl rfl rfl ?_
      refine WL.skipU rfl rfl rfl rfl rfl ?_
      refine WL.skipU rfl rfl rfl rfl rfl ?_
      refine WL.skipG rfl rfl rfl rfl rfl rfl ?_
      refine WL.wantG rfl rfl rfl rfl (WL1.give rfl (g_pickF rfl (.mk rfl rfl) (.mk (v := .bool _) rfl rfl)) ?_)
      refine WL.want rfl (WL1.give rfl (g_pickF rfl (.mk rfl rfl) (.mk (v := .bool _) rfl rfl)) ?_)
      refine WL.nil ?_
      (refine hK _ _ ?_; clear hK)
      refine WC.cond_false (.mk rfl rfl) ?_
      refine WC.skip ?_
      (refine hK _ _ ?_; clear hK)
      refine WC.region rfl ?_
      refine WL.want rfl (WL1.give rfl (g_add rfl (.mk rfl rfl) (.mk rfl rfl) (IntWalk.i64_in _ (by omega))) ?_)
      refine WL.want rfl (WL1.give rfl (g_move rfl (.mk (v := .int _ _) rfl rfl)) ?_)
      refine WL.nil ?_
      refine ⟨i + 1, A1, c1, es ++ [⟨p1, (i : Int) + 1, 1, 0, b32⟩], (by repeat (first | with_reducible exact Out.refl _ _ | refine Out.set rfl ?_ | refine Out.put rfl ?_ | refine Out.sets rfl ?_ | refine Out.hav rfl ?_ | exact Out.refl _ _)), ⟨rfl, trivial⟩, ?_, ⟨by omega, hLa _ _⟩, by omega⟩
      rw [show (((es ++ [(⟨p1, (i : Int) + 1, 1, 0, b32⟩ : En)]).length : Nat) : Int) = (es.length : Int) + 1 from by simp, ← hli]
      exact Imp.sub (.cons_cons _ (.cons_cons _ (.cons_cons _ (List.nil_sublist _))))
    · (refine WC.seq ?_; intro K hK)
      refine WC.region rfl ?_
      refine WL.want rfl (WL1.give rfl (g_lt rfl (.mk rfl rfl) (.mk rfl rfl) (decide_eq_true (by omega))) ?_)
      refine WL.nil ?_
      (refine hK _ _ ?_; clear hK)
      (refine WC.seq ?_; intro K hK)
      refine WC.cond_true (.mk rfl rfl) ?_
      refine WC.skip ?_
      (refine hK _ _ ?_; clear hK)
      (refine WC.seq ?_; intro K hK)
      refine WC.block ?_
      (refine WC.seq ?_; intro K hK)
      refine WC.region rfl ?_
      refine WL.want rfl (WL1.give rfl (g_move rfl (.mk (v := .int _ _) rfl rfl)) ?_)
      refine WL.want rfl (WL1.give rfl (g_assign rfl (.mk (v := .int _ _) rfl rfl)) ?_)
      refine WL.nil ?_
      (refine hK _ _ ?_; clear hK)
      (refine WC.seq ?_; intro K hK)
      refine WC.region rfl ?_
      refine WL.want rfl (WL1.give rfl (g_move rfl (.mk (v := cellPtr _ _) rfl rfl)) ?_)
      refine WL.want rfl (WL1.give rfl (g_build (cs := [_, _]) rfl rfl rfl rfl .nil rfl rfl rfl) ?_)
      refine WL.want rfl (WL1.box rfl rfl (.mk (v := .agg _) rfl rfl) rfl (fun b32 => ?_))
      refine WL.want rfl (WL1.give rfl (g_mkIface rfl (.mk (v := cellPtr _ _) rfl rfl) rfl) ?_)
      refine WL.want rfl (WL1.callP rfl rfl rfl (.cons (.mk (v := cellPtr _ _) rfl rfl) (.cons (.mk (v := .iface _ _) rfl rfl) (.cons (.mk (v := .int _ _) rfl rfl) .nil))) (fun w hw => add_full (last := es.length) (A := A) (c := c) (es := es) (j := b32) (x := 1) (by omega) (by decide) (by decide) (hw.perm (List.perm_middle (l₁ := schd S A c es.length es)).symm)) ?_)
      refine WL.want rfl (WL1.give rfl (g_move rfl (.mk (v := .tuple _) rfl rfl)) ?_)
      refine WL.want rfl (WL1.give rfl (g_extract rfl (.mk rfl rfl) rfl) ?_)
      refine WL.want rfl (WL1.give rfl (g_extract rfl (.mk rfl rfl) rfl) ?_)
      refine WL.want rfl (WL1.give rfl (g_assign rfl (.mk (v := .int _ _) rfl rfl)) ?_)
      refine WL.want rfl (WL1.give rfl (g_assign rfl (.mk (v := .int _ _) rfl rfl)) ?_)
      refine WL.nil ?_
      (refine hK _ _ ?_; clear hK)
      (refine WC.seq ?_; intro K hK)
      refine WC.region rfl ?_
      refine WL.want rfl (WL1.give rfl (g_move rfl (.mk (v := .int _ _) rfl rfl)) ?_)
      refine WL.want rfl (WL1.give rfl (g_lt rfl (.mk rfl rfl) (.mk rfl rfl) (decide_eq_false (by omega))) ?_)
      refine WL.want rfl (WL1.give rfl (g_move rfl (.mk (v := .bool _) rfl rfl)) ?_)
      refine WL.skipG rfl rfl rfl rfl rfl rfl ?_
      refine WL.skipG rfl rfl rfl rfl rfl rfl ?_
      refine WL.skipG rfl rfl rfl rfl rfl rfl ?_
      refine WL.skipG rfl rfl rfl rfl rfl rfl ?_
      refine WL.skipG rfl rfl rfl rfl rfl rfl ?_
      refine WL.skipU rfl rfl rfl rfl rfl ?_
      refine WL.skipU rfl rfl rfl rfl rfl ?_
      refine WL.skipG rfl rfl rfl rfl rfl rfl ?_
      refine WL.want rfl (WL1.give rfl (g_pickF rfl (.mk rfl rfl) (.mk (v := .bool _) rfl rfl)) ?_)
      refine WL.want rfl (WL1.give rfl (g_move rfl (.mk (v := .bool _) rfl rfl)) ?_)
      refine WL.wantG rfl rfl rfl rfl (WL1.give rfl (g_move rfl (.mk (v := .int _ _) rfl rfl)) ?_)
      refine WL.wantG rfl rfl rfl rfl (WL1.give rfl (g_ge rfl (.mk rfl rfl) (.mk rfl rfl) (decide_eq_true (by omega))) ?_)
      refine WL.wantG rfl rfl rfl rfl (WL1.give rfl (g_move rfl (.mk (v := .bool _) rfl rfl)) ?_)
      refine WL.wantG rfl rfl rfl rfl (WL1.give rfl (g_move rfl (.mk (v := .int _ _) rfl rfl)) ?_)
      refine WL.wantG rfl rfl rfl rfl (WL1.give rfl (g_ne rfl (.mk rfl rfl) (.mk rfl rfl) (decide_eq_false (by omega))) ?_)
      refine WL.wantG rfl rfl rfl rfl (WL1.give rfl (g_move rfl (.mk (v := .bool _) rfl rfl)) ?_)
      refine WL.wantG rfl rfl rfl rfl (WL1.give rfl (g_move rfl (.mk (v := .int _ _) rfl rfl)) ?_)
      refine WL.wantG rfl rfl rfl rfl (WL1.give rfl (g_ne rfl (.mk rfl rfl) (.mk rfl rfl) (decide_eq_false (by omega))) ?_)
      refine WL.wantG rfl rfl rfl rfl (WL1.give rfl (g_pickF rfl (.mk rfl rfl) (.mk (v := .bool _) rfl rfl)) ?_)
      refine WL.wantG rfl rfl rfl rfl (WL1.give rfl (g_pickT rfl (.mk rfl rfl) (.mk (v := .bool _) rfl rfl)) ?_)
      refine WL.want rfl (WL1.give rfl (g_pickF rfl (.mk rfl rfl) (.mk (v := .bool _) rfl rfl)) ?_)
      refine WL.nil ?_
      (refine hK _ _ ?_; clear hK)
      refine WC.cond_false (.mk rfl rfl) ?_
      refine WC.skip ?_
      (refine hK _ _ ?_; clear hK)
      refine WC.region rfl ?_
      refine WL.want rfl (WL1.give rfl (g_add rfl (.mk rfl rfl) (.mk rfl rfl) (IntWalk.i64_in _ (by omega))) ?_)
      refine WL.want rfl (WL1.give rfl (g_move rfl (.mk (v := .int _ _) rfl rfl)) ?_)
      refine WL.nil ?_
      exact ⟨i + 1, A, c, es, (by repeat (first | with_reducible exact Out.refl _ _ | refine Out.set rfl ?_ | refine Out.put rfl ?_ | refine Out.sets rfl ?_ | refine Out.hav rfl ?_ | exact Out.refl _ _)), ⟨rfl, trivial⟩, Imp.sub (.cons _ (.refl _)), ⟨by omega, hL.full (by omega)⟩, by omega⟩
  · have h3 := hL.three (by omega)
    have h4 := hL.gone (by omega)
    have hel : (es.eraseIdx 2).length = es.length - 1 := List.length_eraseIdx_of_lt (by omega)
    by_cases hx : 1 ≤ x ∧ x ≤ 16
    · obtain ⟨hx1, hx2⟩ := hx
      (refine WC.seq ?_; intro K hK)
      refine WC.region rfl ?_
      refine WL.want rfl (WL1.give rfl (g_lt rfl (.mk rfl rfl) (.mk rfl rfl) (decide_eq_false (by omega))) ?_)
      refine WL.nil ?_
      (refine hK _ _ ?_; clear hK)
      (refine WC.seq ?_; intro K hK)
      refine WC.cond_false (.mk rfl rfl) ?_
      refine WC.exit ?_
      (clear hK; refine hK _ _ ?_; clear hK)
      (refine WC.seq ?_; intro K hK)
      (refine WC.seq ?_; intro K hK)
      refine WC.region rfl ?_
      refine WL.want rfl (WL1.give rfl (g_move rfl (.mk (v := cellPtr _ _) rfl rfl)) ?_)
      (refine WL.want rfl (WL1.callF rfl rfl rfl (.cons (.mk (v := cellPtr _ _) rfl rfl) (.cons (.mk (v := .int _ _) rfl rfl) .nil)) (fun w hw => remove_yes (by omega) (by omega) h3 hw) ?_); rintro _ _ ⟨rfl, rfl⟩)
      refine WL.want rfl (WL1.give rfl (g_ne rfl (.mk rfl rfl) (.mk rfl rfl) (decide_eq_false (by omega))) ?_)
      refine WL.want rfl (WL1.give rfl (g_move rfl (.mk (v := .bool _) rfl rfl)) ?_)
      refine WL.wantG rfl rfl rfl rfl (WL1.give rfl (g_move rfl (.mk (v := cellPtr _ _) rfl rfl)) ?_)
      (refine WL.wantG rfl rfl rfl rfl (WL1.callF rfl rfl rfl (.cons (.mk (v := cellPtr _ _) rfl rfl) (.cons (.mk (v := .int _ _) rfl rfl) .nil)) (fun w hw => remove_no (by omega) h4 hw) ?_); rintro _ _ ⟨rfl, rfl⟩)
      refine WL.wantG rfl rfl rfl rfl (WL1.give rfl (g_ne rfl (.mk rfl rfl) (.mk rfl rfl) (decide_eq_false (by omega))) ?_)
      refine WL.want rfl (WL1.give rfl (g_pickF rfl (.mk rfl rfl) (.mk (v := .bool _) rfl rfl)) ?_)
      refine WL.nil ?_
      (refine hK _ _ ?_; clear hK)
      refine WC.cond_false (.mk rfl rfl) ?_
      refine WC.skip ?_
      (refine hK _ _ ?_; clear hK)
      (refine WC.seq ?_; intro K hK)
      refine WC.region rfl ?_
      refine WL.want rfl (WL1.give rfl (g_move rfl (.mk (v := cellPtr _ _) rfl rfl)) ?_)
      refine WL.want rfl (WL1.callP rfl rfl rfl (.cons (.mk (v := cellPtr _ _) rfl rfl) (.cons (.mk rfl (by conv => lhs; whnf)) (.cons (.mk (v := .int _ _) rfl rfl) .nil))) (fun w hw => add_none) ?_)
      refine WL.want rfl (WL1.give rfl (g_move rfl (.mk (v := .tuple _) rfl rfl)) ?_)
      refine WL.want rfl (WL1.give rfl (g_extract rfl (.mk rfl rfl) rfl) ?_)
      refine WL.want rfl (WL1.give rfl (g_extract rfl (.mk rfl rfl) rfl) ?_)
      refine WL.want rfl (WL1.give rfl (g_assign rfl (.mk (v := .int _ _) rfl rfl)) ?_)
      refine WL.want rfl (WL1.give rfl (g_assign rfl (.mk (v := .int _ _) rfl rfl)) ?_)
      refine WL.nil ?_
      (refine hK _ _ ?_; clear hK)
      (refine WC.seq ?_; intro K hK)
      refine WC.region rfl ?_
      refine WL.want rfl (WL1.give rfl (g_move rfl (.mk (v := cellPtr _ _) rfl rfl)) ?_)
      refine WL.want rfl (WL1.give rfl (g_build (cs := [_, _]) rfl rfl rfl rfl .nil rfl rfl rfl) ?_)
      refine WL.want rfl (WL1.box rfl rfl (.mk (v := .agg _) rfl rfl) rfl (fun b78 => ?_))
      refine WL.want rfl (WL1.give rfl (g_mkIface rfl (.mk (v := cellPtr _ _) rfl rfl) rfl) ?_)
      refine WL.want rfl (WL1.give rfl (g_move rfl (.mk (v := .int _ _) rfl rfl)) ?_)
      (refine WL.want rfl (WL1.callF rfl rfl rfl (.cons (.mk (v := cellPtr _ _) rfl rfl) (.cons (.mk (v := .iface _ _) rfl rfl) (.cons (.mk (v := .int _ _) rfl rfl) .nil))) (fun w hw => add_ok (j := b78) (x := x) (by omega) hx1 hx2 (by omega) (by omega) (hw.perm (List.perm_middle (l₁ := schd S A c es.length (es.eraseIdx 2))).symm)) ?_); rintro _ _ ⟨A1, c1, p1, rfl, rfl⟩)
      refine WL.want rfl (WL1.give rfl (g_move rfl (.mk (v := .tuple _) rfl rfl)) ?_)
      refine WL.want rfl (WL1.give rfl (g_extract rfl (.mk rfl rfl) rfl) ?_)
      refine WL.want rfl (WL1.give rfl (g_extract rfl (.mk rfl rfl) rfl) ?_)
      refine WL.want rfl (WL1.give rfl (g_assign rfl (.mk (v := .int _ _) rfl rfl)) ?_)
      refine WL.want rfl (WL1.give rfl (g_assign rfl (.mk (v := .int _ _) rfl rfl)) ?_)
      refine WL.nil ?_
      (refine hK _ _ ?_; clear hK)
      (refine WC.seq ?_; intro K hK)
      refine WC.region rfl ?_
      refine WL.want rfl (WL1.give rfl (g_move rfl (.mk (v := cellPtr _ _) rfl rfl)) ?_)
      refine WL.want rfl (WL1.callP rfl rfl rfl (.cons (.mk (v := cellPtr _ _) rfl rfl) (.cons (.mk (v := .int _ _) rfl rfl) .nil)) (fun w hw => pick_arg (by rw [List.length_append]; simp) (by decide) hw) ?_)
      refine WL.want rfl (WL1.give rfl (g_move rfl (.mk (v := .tuple _) rfl rfl)) ?_)
      refine WL.want rfl (WL1.give rfl (g_extract rfl (.mk rfl rfl) rfl) ?_)
      refine WL.want rfl (WL1.give rfl (g_extract rfl (.mk rfl rfl) rfl) ?_)
      refine WL.want rfl (WL1.give rfl (g_extract rfl (.mk rfl rfl) rfl) ?_)
      refine WL.want rfl (WL1.give rfl (g_assign rfl (.mk (v := .int _ _) rfl rfl)) ?_)
      refine WL.want rfl (WL1.give rfl (g_assign rfl (.mk (v := .bool _) rfl rfl)) ?_)
      refine WL.want rfl (WL1.give rfl (g_assign rfl (.mk (v := .int _ _) rfl rfl)) ?_)
      refine WL.nil ?_
      (refine hK _ _ ?_; clear hK)
      (refine WC.seq ?_; intro K hK)
      refine WC.region rfl ?_
      (refine WL.want rfl (WL1.callN rfl rfl rfl .nil (fun w hw => new_n) ?_); rintro _ _ ⟨S, rfl, rfl⟩)
      refine WL.want rfl (WL1.callP rfl rfl rfl (.cons (.mk (v := cellPtr _ _) rfl rfl) (.cons (.mk (v := .int _ _) rfl rfl) .nil)) (fun w hw => pick_no rfl hw) ?_)
      refine WL.want rfl (WL1.give rfl (g_move rfl (.mk (v := .tuple _) rfl rfl)) ?_)
      refine WL.want rfl (WL1.give rfl (g_extract rfl (.mk rfl rfl) rfl) ?_)
      refine WL.want rfl (WL1.give rfl (g_extract rfl (.mk rfl rfl) rfl) ?_)
      refine WL.want rfl (WL1.give rfl (g_extract rfl (.mk rfl rfl) rfl) ?_)
      refine WL.want rfl (WL1.give rfl (g_assign rfl (.mk (v := .int _ _) rfl rfl)) ?_)
      refine WL.want rfl (WL1.give rfl (g_assign rfl (.mk (v := .bool _) rfl rfl)) ?_)
      refine WL.want rfl (WL1.give rfl (g_assign rfl (.mk (v := .int _ _) rfl rfl)) ?_)
      refine WL.nil ?_
      (refine hK _ _ ?_; clear hK)
      (refine WC.seq ?_; intro K hK)
      (refine WC.seq ?_; intro K hK)
      refine WC.region rfl ?_
      refine WL.want rfl (WL1.give rfl (g_move rfl (.mk (v := .int _ _) rfl rfl)) ?_)
      refine WL.want rfl (WL1.give rfl (g_ne rfl (.mk rfl rfl) (.mk rfl rfl) (decide_eq_false (by omega))) ?_)
      refine WL.want rfl (WL1.give rfl (g_move rfl (.mk (v := .bool _) rfl rfl)) ?_)
      refine WL.wantG rfl rfl rfl rfl (WL1.give rfl (g_move rfl (.mk (v := .int _ _) rfl rfl)) ?_)
      refine WL.wantG rfl rfl rfl rfl (WL1.give rfl (g_ne rfl (.mk rfl rfl) (.mk rfl rfl) (decide_eq_false (by omega))) ?_)
      refine WL.want rfl (WL1.give rfl (g_pickF rfl (.mk rfl rfl) (.mk (v := .bool _) rfl rfl)) ?_)
      refine WL.want rfl (WL1.give rfl (g_move rfl (.mk (v := .bool _) rfl rfl)) ?_)
      refine WL.wantG rfl rfl rfl rfl (WL1.give rfl (g_move rfl (.mk (v := .int _ _) rfl rfl)) ?_)
      refine WL.wantG rfl rfl rfl rfl (WL1.give rfl (g_ne rfl (.mk rfl rfl) (.mk rfl rfl) (decide_eq_false (by omega))) ?_)
      refine WL.want rfl (WL1.give rfl (g_pickF rfl (.mk rfl rfl) (.mk (v := .bool _) rfl rfl)) ?_)
      refine WL.nil ?_
      (refine hK _ _ ?_; clear hK)
      refine WC.cond_false (.mk rfl rfl) ?_
      refine WC.skip ?_
      (refine hK _ _ ?_; clear hK)
      (refine WC.seq ?_; intro K hK)
      (refine WC.seq ?_; intro K hK)
      refine WC.region rfl ?_
      refine WL.want rfl (WL1.give rfl (g_move rfl (.mk (v := .int _ _) rfl rfl)) ?_)
      refine WL.want rfl (WL1.give rfl (g_lt rfl (.mk rfl rfl) (.mk rfl rfl) (decide_eq_false (by omega))) ?_)
      refine WL.want rfl (WL1.give rfl (g_move rfl (.mk (v := .bool _) rfl rfl)) ?_)
      refine WL.wantG rfl rfl rfl rfl (WL1.give rfl (g_move rfl (.mk (v := .int _ _) rfl rfl)) ?_)
      refine WL.wantG rfl rfl rfl rfl (WL1.give rfl (g_gt rfl (.mk rfl rfl) (.mk rfl rfl) (decide_eq_false (by omega))) ?_)
      refine WL.want rfl (WL1.give rfl (g_pickF rfl (.mk rfl rfl) (.mk (v := .bool _) rfl rfl)) ?_)
      refine WL.nil ?_
      (refine hK _ _ ?_; clear hK)
      refine WC.cond_false (.mk rfl rfl) ?_
      refine WC.skip ?_
      (refine hK _ _ ?_; clear hK)
      (refine WC.seq ?_; intro K hK)
      refine WC.region rfl ?_
      refine WL.want rfl (WL1.give rfl (g_move rfl (.mk (v := .int _ _) rfl rfl)) ?_)
      refine WL.want rfl (WL1.give rfl (g_move rfl (.mk (v := .int _ _) rfl rfl)) ?_)
      refine WL.want rfl (WL1.give rfl (g_rem rfl (.mk rfl rfl) (.mk rfl rfl) (by omega) hr') ?_)
      refine WL.want rfl (WL1.give rfl (g_conv rfl rfl rfl (.mk rfl rfl) (IntWalk.i64_in _ (by omega))) ?_)
      refine WL.want rfl (WL1.give rfl (g_add rfl (.mk rfl rfl) (.mk rfl rfl) (IntWalk.i64_in _ (by omega))) ?_)
      refine WL.want rfl (WL1.give rfl (g_min rfl (.mk rfl rfl) (.mk rfl rfl) rfl) ?_)
      refine WL.want rfl (WL1.give rfl (g_add rfl (.mk rfl rfl) (.mk rfl rfl) (IntWalk.i64_in _ (by omega))) ?_)
      refine WL.want rfl (WL1.give rfl (g_eq rfl (.mk rfl rfl) (.mk rfl rfl) (decide_eq_true (by omega))) ?_)
      refine WL.want rfl (WL1.give rfl (g_move rfl (.mk (v := .bool _) rfl rfl)) ?_)
      refine WL.wantG rfl rfl rfl rfl (WL1.give rfl (g_move rfl (.mk (v := .int _ _) rfl rfl)) ?_)
      refine WL.wantG rfl rfl rfl rfl (WL1.give rfl (g_eq rfl (.mk rfl rfl) (.mk rfl rfl) (decide_eq_true (by omega))) ?_)
      refine WL.want rfl (WL1.give rfl (g_pickT rfl (.mk rfl rfl) (.mk (v := .bool _) rfl rfl)) ?_)
      refine WL.want rfl (WL1.give rfl (g_assign rfl (.mk (v := .bool _) rfl rfl)) ?_)
      refine WL.nil ?_
      (refine hK _ _ ?_; clear hK)
      refine WC.ret ?_
      exact fun w' hw' => ⟨rfl, hw'.1⟩
    · (refine WC.seq ?_; intro K hK)
      refine WC.region rfl ?_
      refine WL.want rfl (WL1.give rfl (g_lt rfl (.mk rfl rfl) (.mk rfl rfl) (decide_eq_false (by omega))) ?_)
      refine WL.nil ?_
      (refine hK _ _ ?_; clear hK)
      (refine WC.seq ?_; intro K hK)
      refine WC.cond_false (.mk rfl rfl) ?_
      refine WC.exit ?_
      (clear hK; refine hK _ _ ?_; clear hK)
      (refine WC.seq ?_; intro K hK)
      (refine WC.seq ?_; intro K hK)
      refine WC.region rfl ?_
      refine WL.want rfl (WL1.give rfl (g_move rfl (.mk (v := cellPtr _ _) rfl rfl)) ?_)
      (refine WL.want rfl (WL1.callF rfl rfl rfl (.cons (.mk (v := cellPtr _ _) rfl rfl) (.cons (.mk (v := .int _ _) rfl rfl) .nil)) (fun w hw => remove_yes (by omega) (by omega) h3 hw) ?_); rintro _ _ ⟨rfl, rfl⟩)
      refine WL.want rfl (WL1.give rfl (g_ne rfl (.mk rfl rfl) (.mk rfl rfl) (decide_eq_false (by omega))) ?_)
      refine WL.want rfl (WL1.give rfl (g_move rfl (.mk (v := .bool _) rfl rfl)) ?_)
      refine WL.wantG rfl rfl rfl rfl (WL1.give rfl (g_move rfl (.mk (v := cellPtr _ _) rfl rfl)) ?_)
      (refine WL.wantG rfl rfl rfl rfl (WL1.callF rfl rfl rfl (.cons (.mk (v := cellPtr _ _) rfl rfl) (.cons (.mk (v := .int _ _) rfl rfl) .nil)) (fun w hw => remove_no (by omega) h4 hw) ?_); rintro _ _ ⟨rfl, rfl⟩)
      refine WL.wantG rfl rfl rfl rfl (WL1.give rfl (g_ne rfl (.mk rfl rfl) (.mk rfl rfl) (decide_eq_false (by omega))) ?_)
      refine WL.want rfl (WL1.give rfl (g_pickF rfl (.mk rfl rfl) (.mk (v := .bool _) rfl rfl)) ?_)
      refine WL.nil ?_
      (refine hK _ _ ?_; clear hK)
      refine WC.cond_false (.mk rfl rfl) ?_
      refine WC.skip ?_
      (refine hK _ _ ?_; clear hK)
      (refine WC.seq ?_; intro K hK)
      refine WC.region rfl ?_
      refine WL.want rfl (WL1.give rfl (g_move rfl (.mk (v := cellPtr _ _) rfl rfl)) ?_)
      refine WL.want rfl (WL1.callP rfl rfl rfl (.cons (.mk (v := cellPtr _ _) rfl rfl) (.cons (.mk rfl (by conv => lhs; whnf)) (.cons (.mk (v := .int _ _) rfl rfl) .nil))) (fun w hw => add_none) ?_)
      refine WL.want rfl (WL1.give rfl (g_move rfl (.mk (v := .tuple _) rfl rfl)) ?_)
      refine WL.want rfl (WL1.give rfl (g_extract rfl (.mk rfl rfl) rfl) ?_)
      refine WL.want rfl (WL1.give rfl (g_extract rfl (.mk rfl rfl) rfl) ?_)
      refine WL.want rfl (WL1.give rfl (g_assign rfl (.mk (v := .int _ _) rfl rfl)) ?_)
      refine WL.want rfl (WL1.give rfl (g_assign rfl (.mk (v := .int _ _) rfl rfl)) ?_)
      refine WL.nil ?_
      (refine hK _ _ ?_; clear hK)
      (refine WC.seq ?_; intro K hK)
      refine WC.region rfl ?_
      refine WL.want rfl (WL1.give rfl (g_move rfl (.mk (v := cellPtr _ _) rfl rfl)) ?_)
      refine WL.want rfl (WL1.give rfl (g_build (cs := [_, _]) rfl rfl rfl rfl .nil rfl rfl rfl) ?_)
      refine WL.want rfl (WL1.box rfl rfl (.mk (v := .agg _) rfl rfl) rfl (fun b78 => ?_))
      refine WL.want rfl (WL1.give rfl (g_mkIface rfl (.mk (v := cellPtr _ _) rfl rfl) rfl) ?_)
      refine WL.want rfl (WL1.give rfl (g_move rfl (.mk (v := .int _ _) rfl rfl)) ?_)
      refine WL.want rfl (WL1.callP rfl rfl rfl (.cons (.mk (v := cellPtr _ _) rfl rfl) (.cons (.mk (v := .iface _ _) rfl rfl) (.cons (.mk (v := .int _ _) rfl rfl) .nil))) (fun w hw => add_bad (j := b78) (x := x) (by omega) hw) ?_)
      refine WL.want rfl (WL1.give rfl (g_move rfl (.mk (v := .tuple _) rfl rfl)) ?_)
      refine WL.want rfl (WL1.give rfl (g_extract rfl (.mk rfl rfl) rfl) ?_)
      refine WL.want rfl (WL1.give rfl (g_extract rfl (.mk rfl rfl) rfl) ?_)
      refine WL.want rfl (WL1.give rfl (g_assign rfl (.mk (v := .int _ _) rfl rfl)) ?_)
      refine WL.want rfl (WL1.give rfl (g_assign rfl (.mk (v := .int _ _) rfl rfl)) ?_)
      refine WL.nil ?_
      (refine hK _ _ ?_; clear hK)
      (refine WC.seq ?_; intro K hK)
      refine WC.region rfl ?_
      refine WL.want rfl (WL1.give rfl (g_move rfl (.mk (v := cellPtr _ _) rfl rfl)) ?_)
      refine WL.want rfl (WL1.callP rfl rfl rfl (.cons (.mk (v := cellPtr _ _) rfl rfl) (.cons (.mk (v := .int _ _) rfl rfl) .nil)) (fun w hw => pick_arg (by omega) (by decide) (hw.perm (List.perm_middle (l₁ := schd S A c es.length (es.eraseIdx 2))).symm)) ?_)
      refine WL.want rfl (WL1.give rfl (g_move rfl (.mk (v := .tuple _) rfl rfl)) ?_)
      refine WL.want rfl (WL1.give rfl (g_extract rfl (.mk rfl rfl) rfl) ?_)
      refine WL.want rfl (WL1.give rfl (g_extract rfl (.mk rfl rfl) rfl) ?_)
      refine WL.want rfl (WL1.give rfl (g_extract rfl (.mk rfl rfl) rfl) ?_)
      refine WL.want rfl (WL1.give rfl (g_assign rfl (.mk (v := .int _ _) rfl rfl)) ?_)
      refine WL.want rfl (WL1.give rfl (g_assign rfl (.mk (v := .bool _) rfl rfl)) ?_)
      refine WL.want rfl (WL1.give rfl (g_assign rfl (.mk (v := .int _ _) rfl rfl)) ?_)
      refine WL.nil ?_
      (refine hK _ _ ?_; clear hK)
      (refine WC.seq ?_; intro K hK)
      refine WC.region rfl ?_
      (refine WL.want rfl (WL1.callN rfl rfl rfl .nil (fun w hw => new_n) ?_); rintro _ _ ⟨S, rfl, rfl⟩)
      refine WL.want rfl (WL1.callP rfl rfl rfl (.cons (.mk (v := cellPtr _ _) rfl rfl) (.cons (.mk (v := .int _ _) rfl rfl) .nil)) (fun w hw => pick_no rfl hw) ?_)
      refine WL.want rfl (WL1.give rfl (g_move rfl (.mk (v := .tuple _) rfl rfl)) ?_)
      refine WL.want rfl (WL1.give rfl (g_extract rfl (.mk rfl rfl) rfl) ?_)
      refine WL.want rfl (WL1.give rfl (g_extract rfl (.mk rfl rfl) rfl) ?_)
      refine WL.want rfl (WL1.give rfl (g_extract rfl (.mk rfl rfl) rfl) ?_)
      refine WL.want rfl (WL1.give rfl (g_assign rfl (.mk (v := .int _ _) rfl rfl)) ?_)
      refine WL.want rfl (WL1.give rfl (g_assign rfl (.mk (v := .bool _) rfl rfl)) ?_)
      refine WL.want rfl (WL1.give rfl (g_assign rfl (.mk (v := .int _ _) rfl rfl)) ?_)
      refine WL.nil ?_
      (refine hK _ _ ?_; clear hK)
      (refine WC.seq ?_; intro K hK)
      (refine WC.seq ?_; intro K hK)
      refine WC.region rfl ?_
      refine WL.want rfl (WL1.give rfl (g_move rfl (.mk (v := .int _ _) rfl rfl)) ?_)
      refine WL.want rfl (WL1.give rfl (g_ne rfl (.mk rfl rfl) (.mk rfl rfl) (decide_eq_false (by omega))) ?_)
      refine WL.want rfl (WL1.give rfl (g_move rfl (.mk (v := .bool _) rfl rfl)) ?_)
      refine WL.wantG rfl rfl rfl rfl (WL1.give rfl (g_move rfl (.mk (v := .int _ _) rfl rfl)) ?_)
      refine WL.wantG rfl rfl rfl rfl (WL1.give rfl (g_ne rfl (.mk rfl rfl) (.mk rfl rfl) (decide_eq_false (by omega))) ?_)
      refine WL.want rfl (WL1.give rfl (g_pickF rfl (.mk rfl rfl) (.mk (v := .bool _) rfl rfl)) ?_)
      refine WL.want rfl (WL1.give rfl (g_move rfl (.mk (v := .bool _) rfl rfl)) ?_)
      refine WL.wantG rfl rfl rfl rfl (WL1.give rfl (g_move rfl (.mk (v := .int _ _) rfl rfl)) ?_)
      refine WL.wantG rfl rfl rfl rfl (WL1.give rfl (g_ne rfl (.mk rfl rfl) (.mk rfl rfl) (decide_eq_false (by omega))) ?_)
      refine WL.want rfl (WL1.give rfl (g_pickF rfl (.mk rfl rfl) (.mk (v := .bool _) rfl rfl)) ?_)
      refine WL.nil ?_
      (refine hK _ _ ?_; clear hK)
      refine WC.cond_false (.mk rfl rfl) ?_
      refine WC.skip ?_
      (refine hK _ _ ?_; clear hK)
      (refine WC.seq ?_; intro K hK)
      (refine WC.seq ?_; intro K hK)
      refine WC.region rfl ?_
      refine WL.want rfl (WL1.give rfl (g_move rfl (.mk (v := .int _ _) rfl rfl)) ?_)
      refine WL.want rfl (WL1.giveD rfl (g_lt rfl (.mk rfl rfl) (.mk rfl rfl) rfl) (fun _ => ?_) (fun _ => ?_))
      refine WL.want rfl (WL1.give rfl (g_move rfl (.mk (v := .bool _) rfl rfl)) ?_)
      refine WL.skipG rfl rfl rfl rfl rfl rfl ?_
      refine WL.skipG rfl rfl rfl rfl rfl rfl ?_
      refine WL.want rfl (WL1.give rfl (g_pickT rfl (.mk rfl rfl) (.mk (v := .bool _) rfl rfl)) ?_)
      refine WL.nil ?_
      (refine hK _ _ ?_; clear hK)
      refine WC.cond_true (.mk rfl rfl) ?_
      (refine WC.seq ?_; intro K hK)
      refine WC.region rfl ?_
      refine WL.want rfl (WL1.give rfl (g_move rfl (.mk (v := .int _ _) rfl rfl)) ?_)
      refine WL.want rfl (WL1.give rfl (g_eq rfl (.mk rfl rfl) (.mk rfl rfl) (decide_eq_true (by omega))) ?_)
      refine WL.want rfl (WL1.give rfl (g_move rfl (.mk (v := .bool _) rfl rfl)) ?_)
      refine WL.wantG rfl rfl rfl rfl (WL1.give rfl (g_move rfl (.mk (v := .int _ _) rfl rfl)) ?_)
      refine WL.wantG rfl rfl rfl rfl (WL1.give rfl (g_eq rfl (.mk rfl rfl) (.mk rfl rfl) (decide_eq_true (by omega))) ?_)
      refine WL.want rfl (WL1.give rfl (g_pickT rfl (.mk rfl rfl) (.mk (v := .bool _) rfl rfl)) ?_)
      refine WL.want rfl (WL1.give rfl (g_assign rfl (.mk (v := .bool _) rfl rfl)) ?_)
      refine WL.nil ?_
      (refine hK _ _ ?_; clear hK)
      refine WC.ret ?_
      rotate_left
      refine WL.want rfl (WL1.give rfl (g_move rfl (.mk (v := .bool _) rfl rfl)) ?_)
      refine WL.wantG rfl rfl rfl rfl (WL1.give rfl (g_move rfl (.mk (v := .int _ _) rfl rfl)) ?_)
      refine WL.wantG rfl rfl rfl rfl (WL1.give rfl (g_gt rfl (.mk rfl rfl) (.mk rfl rfl) (decide_eq_true (by omega))) ?_)
      refine WL.want rfl (WL1.give rfl (g_pickF rfl (.mk rfl rfl) (.mk (v := .bool _) rfl rfl)) ?_)
      refine WL.nil ?_
      (refine hK _ _ ?_; clear hK)
      refine WC.cond_true (.mk rfl rfl) ?_
      (refine WC.seq ?_; intro K hK)
      refine WC.region rfl ?_
      refine WL.want rfl (WL1.give rfl (g_move rfl (.mk (v := .int _ _) rfl rfl)) ?_)
      refine WL.want rfl (WL1.give rfl (g_eq rfl (.mk rfl rfl) (.mk rfl rfl) (decide_eq_true (by omega))) ?_)
      refine WL.want rfl (WL1.give rfl (g_move rfl (.mk (v := .bool _) rfl rfl)) ?_)
      refine WL.wantG rfl rfl rfl rfl (WL1.give rfl (g_move rfl (.mk (v := .int _ _) rfl rfl)) ?_)
      refine WL.wantG rfl rfl rfl rfl (WL1.give rfl (g_eq rfl (.mk rfl rfl) (.mk rfl rfl) (decide_eq_true (by omega))) ?_)
      refine WL.want rfl (WL1.give rfl (g_pickT rfl (.mk rfl rfl) (.mk (v := .bool _) rfl rfl)) ?_)
      refine WL.want rfl (WL1.give rfl (g_assign rfl (.mk (v := .bool _) rfl rfl)) ?_)
      refine WL.nil ?_
      (refine hK _ _ ?_; clear hK)
      refine WC.ret ?_
      rotate_left
      all_goals exact fun w' hw' => ⟨rfl, hw'.1⟩

set_option maxRecDepth 100000 in
theorem lifted (os : Os) (started : os.Started) (H : Type) (enc : TypeId × Value → H) :
    ReturnsInHanded {} Try.checked os 3 .any (Rows.stepsLimitsSpec.pre6 enc Try.prog Try.f3 Rows.stepsLimitsRow.domain false) (Rows.stepsLimitsSpec.post enc Try.prog Try.f3 false true false false) := by
  refine returnsInHanded_of_change (C := Try.checked) own started (by kernel_rfl) Try.func3
    (ChangeSpec.witness6 (enc := enc) (C := Try.checked) false ⟨#[], #[.int .u8 0, .int .i64 0], []⟩ 8 (by kernel_rfl) (by kernel_rfl) (by kernel_rfl) (by kernel_rfl)) ?_
  intro W base args ds gs before hval0 hW _ _
  have hval : ∀ (j : Nat) t v, Try.f3.params[j]? = some t → args[j]? = some v → Value.okWide Try.prog W .any base t v := hval0
  have hW' := hW
  obtain ⟨p, q, hA0, hV, rfl, hfz, hnd⟩ := hW
  have hA : DataW.TrodAll enc Try.prog W 0 (fun _ => true) true Try.f3.params.toList args.toList ds p := hA0
  rw [Try.params3] at hA hval
  obtain ⟨v0, vs0, d0, ds0, p0, q0, hargs, rfl, rfl, h0, r0⟩ := trodAll_cons hA
  obtain ⟨v1, vs1, d1, ds1, p1, q1, rfl, rfl, rfl, h1, r1⟩ := trodAll_cons r0
  obtain ⟨rfl, rfl, rfl⟩ := trodAll_nil r1
  obtain rfl : args = #[v0, v1] := by cases args; simp_all
  obtain ⟨n, rfl, nlo, nhi⟩ := open_u8i (hval 0 5 v0 rfl rfl) h0
  obtain ⟨wt, rfl, wtlo, wthi⟩ := open_iv (hval 1 3 v1 rfl rfl) h1
  refine (walk (w := W) n nlo nhi wt wtlo wthi).mono fun e W' ⟨he, hb⟩ => ?_
  subst he
  exact ⟨_, rfl, law_post laidOut (by kernel_rfl) rfl rfl Try.underlying4 (fun ds h => by match ds, h with | [_, _], _ => rfl) hW' hb⟩

theorem proved : Rows.StepsLimitsSaid :=
  OpenClaim.holds_of_wide 3 Try.f3 rfl rfl rfl rfl rfl rfl rfl ⟨rfl, rfl, rfl, rfl, rfl⟩ rfl rfl rfl rfl rfl (by kernel_rfl) Try.func3 (by kernel_rfl)
    (of_decide_eq_true (by kernel_rfl)) (by unfold Func.isWrapper; first | (rw [if_pos (by decide +kernel)]; kernel_rfl) | (rw [if_neg (by decide +kernel)]; exact ⟨rfl, rfl⟩))
    (fun os started H enc _ => lifted os started H enc)
end Go.Proofs.Ytbofagfilohhfaa.LStepsLimits
