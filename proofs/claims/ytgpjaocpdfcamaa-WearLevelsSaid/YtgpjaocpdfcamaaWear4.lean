/- The walk of the reference's Reset, and what an erasure does to Spread and Total. No condition. -/
import Derived.Test.YtgpjaocpdfcamaaWear3
namespace Go.Proofs.Ytgpjaocpdfcamaa
open Go.RowKit
/-- The list after an erasure of band k. -/
def erased (l : List Band) (k : Nat) : List Band := l.set k ⟨0, 0, 0, IntKind.u64.wrap (wearAt l k + 1)⟩
def newR (l : List Band) (v : Value) (M : List Asrt) : Prop := ∃ A c, v = .tuple #[.slice A l.length c, iv 0] ∧ M = [vec A l.length c 32 4 (bcs l)]
theorem wearAt_nth {l : List Band} {k : Nat} (h : k < l.length) : wearAt l k = (nth l k).wear := by rw [wearAt_eq h, nth_eq h]
set_option maxRecDepth 20000 in
theorem reset_e (A : Option Addr) (c : Nat) (l : List Band) (k : Nat) (hk : k < l.length) (hn2 : l.length ≤ 1000000) (w : World) (hs : Sl w 4 (.slice A l.length c) l.length (bcs l)) :
    Calls Try.prog 15 #[.slice A l.length c, iv k] w fun e w' => ∃ v M, e = .returned v ∧ H w M w' ∧ newR (erased l k) v M := by
  have HW := wearAt_nth hk
  refine calls_wc (args := [.slice A l.length c, iv k]) [4, 5] [] Try.func15 rfl Try.ntmps15 rfl rfl rfl rfl (H.refl w) ?_
  (refine WC.seq ?_; intro K hK)
  refine WC.region ?_
  refine WL.want rfl (WL1.give rfl (g_assign rfl (.mk (v := .slice _ _ _) rfl rfl)) ?_)
  refine WL.want rfl (WL1.give rfl (g_assign rfl (.mk (v := .int _ _) rfl rfl)) ?_)
  refine WL.nil ?_
  (refine hK _ _ ?_; clear hK)
  (refine WC.seq ?_; intro K hK)
  (refine WC.seq ?_; intro K hK)
  refine WC.region ?_
  refine WL.want rfl (WL1.give rfl (g_move rfl (.mk (v := .int _ _) rfl rfl)) ?_)
  refine WL.want rfl (WL1.give rfl (g_lt rfl (.mk rfl rfl) (.mk rfl rfl) (decide_eq_false (by omega))) ?_)
  refine WL.want rfl (WL1.give rfl (g_move rfl (.mk (v := .bool _) rfl rfl)) ?_)
  refine WL.wantG rfl rfl rfl rfl (WL1.give rfl (g_move rfl (.mk (v := .int _ _) rfl rfl)) ?_)
  refine WL.wantG rfl rfl rfl rfl (WL1.give rfl (g_move rfl (.mk (v := .slice _ _ _) rfl rfl)) ?_)
  refine WL.wantG rfl rfl rfl rfl (WL1.give rfl (g_len rfl (.mk rfl rfl) rfl) ?_)
  refine WL.wantG rfl rfl rfl rfl (WL1.give rfl (g_ge rfl (.mk rfl rfl) (.mk rfl rfl) (decide_eq_false (by omega))) ?_)
  refine WL.want rfl (WL1.give rfl (g_pickF rfl (.mk rfl rfl) (.mk (v := .bool _) rfl rfl)) ?_)
  refine WL.nil ?_
  (refine hK _ _ ?_; clear hK)
  refine WC.cond_false (.mk rfl rfl) ?_
  refine WC.skip ?_
  (refine hK _ _ ?_; clear hK)
  (refine WC.seq ?_; intro K hK)
  refine WC.region ?_
  refine WL.want rfl (WL1.give rfl (g_move rfl (.mk (v := .slice _ _ _) rfl rfl)) ?_)
  refine WL.want rfl (WL1.give rfl (g_move rfl (.mk (v := .int _ _) rfl rfl)) ?_)
  refine WL.want rfl (WL1.give rfl (g_move rfl (.mk (v := .slice _ _ _) rfl rfl)) ?_)
  refine WL.want rfl (WL1.give rfl (g_move rfl (.mk (v := .int _ _) rfl rfl)) ?_)
  refine WL.want rfl (WL1.give rfl (g_indexAddr (sz := 4) rfl (.mk rfl rfl) (.mk rfl rfl) rfl rfl rfl (by omega) (fun _ _ => sl_some hs (by omega))) ?_)
  refine WL.want rfl (WL1.give rfl (g_fieldAddr (off := 3) rfl (.mk rfl rfl) rfl (fun _ _ => sl_some hs (by omega))) ?_)
  refine WL.want rfl (WL1.give rfl (g_load rfl (.mk rfl rfl) rfl (rd_sl hs ((flat_get band4 (by omega) (by decide)).trans rfl))) ?_)
  refine WL.want rfl (WL1.give rfl (g_add rfl (.mk rfl rfl) (.mk rfl rfl) rfl) ?_)
  refine WL.want rfl (WL1.give rfl (g_build (cs := [_, _, _, _]) rfl rfl rfl rfl (.cons (.mk (v := .int _ _) rfl rfl) .nil) rfl rfl rfl) ?_)
  (refine WL.want rfl (WL1.callN rfl rfl rfl (.cons (.mk (v := .slice _ _ _) rfl rfl) (.cons (.mk (v := .int _ _) rfl rfl) (.cons (.mk (v := .agg _) rfl rfl) .nil))) (fun w hw => with_e A c l k ⟨0, 0, 0, IntKind.u64.wrap ((nth l k).wear + 1)⟩ hk hn2 w (hs.below hw.1)) ?_); rintro _ _ ⟨A', c', rfl, rfl⟩)
  refine WL.want rfl (WL1.give rfl (g_assign rfl (.mk (v := .slice _ _ _) rfl rfl)) ?_)
  refine WL.want rfl (WL1.give rfl (g_assign rfl (.mk (v := .int _ _) rfl rfl)) ?_)
  refine WL.nil ?_
  (refine hK _ _ ?_; clear hK)
  refine WC.ret ?_
  intro w' hw'
  unfold erased
  rw [HW]
  exact ⟨_, _, rfl, hw', A', c', rfl, rfl⟩
/-- What best is, of the first k bands. -/
theorem best_spec (l : List Band) : ∀ k, k ≤ l.length → (best l k < 0 ∧ ∀ i, i < k → (nth l i).used ≠ 0) ∨
    ∃ j : Nat, best l k = (j : Int) ∧ j < k ∧ (nth l j).used = 0 ∧ ∀ i, i < k → (nth l i).used = 0 → (nth l j).wear < (nth l i).wear ∨ (nth l j).wear = (nth l i).wear ∧ j ≤ i
  | 0, _ => .inl ⟨by simp [best], fun i h => absurd h (by omega)⟩
  | k + 1, hk => by
    have hkl : k < l.length := by omega
    have ih := best_spec l k (by omega)
    have hget : l[k]? = some (nth l k) := nth_get hkl
    rw [best, hget]
    simp only
    rcases ih with ⟨hneg, hall⟩ | ⟨j, hj, hjk, hu, hall⟩
    · by_cases h0 : (nth l k).used = 0
      · rw [if_pos ⟨h0, .inl hneg⟩]
        refine .inr ⟨k, rfl, by omega, h0, fun i hi hi0 => ?_⟩
        rcases Nat.lt_or_ge i k with h | h
        · exact absurd hi0 (hall i h)
        · obtain rfl : i = k := by omega
          exact .inr ⟨rfl, Nat.le_refl _⟩
      · rw [if_neg (fun h => h0 h.1)]
        refine .inl ⟨hneg, fun i hi => ?_⟩
        rcases Nat.lt_or_ge i k with h | h
        · exact hall i h
        · obtain rfl : i = k := by omega
          exact h0
    · have hjg : l[(best l k).toNat]? = some (nth l j) := by rw [hj, Int.toNat_natCast]; exact nth_get (by omega)
      by_cases h0 : (nth l k).used = 0 ∧ (nth l k).wear < (nth l j).wear
      · rw [if_pos ⟨h0.1, .inr fun c hc => by rw [hjg] at hc; injection hc with hc; rw [← hc]; exact h0.2⟩]
        refine .inr ⟨k, rfl, by omega, h0.1, fun i hi hi0 => ?_⟩
        rcases Nat.lt_or_ge i k with h | h
        · have := hall i h hi0; omega
        · obtain rfl : i = k := by omega
          exact .inr ⟨rfl, Nat.le_refl _⟩
      · rw [if_neg (fun h => h0 ⟨h.1, by
          rcases h.2 with h2 | h2
          · rw [hj] at h2; omega
          · exact h2 _ hjg⟩)]
        refine .inr ⟨j, hj, by omega, hu, fun i hi hi0 => ?_⟩
        rcases Nat.lt_or_ge i k with h | h
        · exact hall i h hi0
        · obtain rfl : i = k := by omega
          have : ¬ (nth l i).wear < (nth l j).wear := fun h3 => h0 ⟨hi0, h3⟩
          omega
section
variable {l : List Band} {k : Nat}
theorem erased_len : (erased l k).length = l.length := by unfold erased; simp
theorem erased_at (hk : k < l.length) (j : Nat) : wearAt (erased l k) j = if j = k then IntKind.u64.wrap (wearAt l k + 1) else wearAt l j := by
  unfold wearAt erased
  by_cases h : j = k
  · subst h
    rw [List.getElem?_set_self hk, if_pos rfl]
    rfl
  · rw [List.getElem?_set_ne (fun e => h e.symm), if_neg h]
theorem hilo_erased (hk : k < l.length) (hok : ∀ b ∈ l, b.ok) (hne : wearAt l k ≠ 18446744073709551615) :
    ∀ j, hi l j ≤ hi (erased l k) j ∧ hi (erased l k) j ≤ hi l j + 1 ∧ lo l j ≤ lo (erased l k) j ∧ lo (erased l k) j ≤ lo l j + 1 := by
  have hw : ∀ j, wearAt l j ≤ wearAt (erased l k) j ∧ wearAt (erased l k) j ≤ wearAt l j + 1 := by
    intro j
    rw [erased_at hk]
    by_cases h : j = k
    · subst h
      rw [if_pos rfl]
      have := wearAt_ok hok j
      rw [IntWalk.u64_in _ (by omega)]
      omega
    · rw [if_neg h]; omega
  intro j
  induction j with
  | zero => have := hw 0; simp only [hi, lo]; omega
  | succ j ih =>
    have := hw j
    simp only [hi, lo]
    split <;> split <;> split <;> split <;> omega
theorem spread_erased (hk : k < l.length) (hok : ∀ b ∈ l, b.ok) (hne : wearAt l k ≠ 18446744073709551615) :
    spreadN l = spreadN (erased l k) ∨ spreadN l = spreadN (erased l k) + 1 ∨ spreadN (erased l k) = spreadN l + 1 := by
  have h := hilo_erased hk hok hne l.length
  unfold spreadN
  rw [erased_len, if_neg (by omega), if_neg (by omega)]
  omega
theorem total_erased (hk : k < l.length) : ∀ j, totalTo (erased l k) j = if j ≤ k then totalTo l j else IntKind.u64.wrap (totalTo l j + 1)
  | 0 => by simp [totalTo]
  | j + 1 => by
    have ih := total_erased hk j
    rw [totalTo, totalTo, ih, erased_at hk]
    simp only [IntKind.wrap_u64]
    by_cases h1 : j + 1 ≤ k
    · rw [if_pos (by omega), if_pos h1, if_neg (by omega)]
    · rw [if_neg h1]
      by_cases h2 : j = k
      · subst h2
        rw [if_pos (Nat.le_refl _), if_pos rfl]
        omega
      · rw [if_neg (by omega), if_neg h2]
        omega
theorem totals (hk : k < l.length) : totalTo (erased l k) l.length = IntKind.u64.wrap (totalTo l l.length + 1) := by rw [total_erased hk, if_neg (by omega)]
theorem erased_ok (hk : k < l.length) (hok : ∀ b ∈ l, b.ok) : ∀ b ∈ erased l k, b.ok := by
  intro b hb
  rcases List.mem_or_eq_of_mem_set hb with h | rfl
  · exact hok b h
  · show 0 ≤ IntKind.u64.wrap _ ∧ IntKind.u64.wrap _ ≤ _
    rw [IntKind.wrap_u64]; omega
theorem spread_range (hok : ∀ b ∈ l, b.ok) : 0 ≤ spreadN l ∧ spreadN l ≤ 18446744073709551615 := by
  have := lo_hi hok l.length
  unfold spreadN
  split <;> omega
end
end Go.Proofs.Ytgpjaocpdfcamaa
