/- Delete and Remove, walked. No condition. -/
import Derived.Test.YtbofagfilohhfaaStp1
namespace Go.Proofs.Ytbofagfilohhfaa
set_option maxRecDepth 20000
open Go.RowKit
attribute [local irreducible] Calls
section
variable {P : Program} {n : Fr} {w0 : World} {ops : Array Oper} {K : Post} {o : Oper} {rest : List Oper} {E : Env} {L : List Asrt} {C : World → Prop}
theorem g_slice0 {t e : TypeId} {x y2 : Operand} {g m c h sz : Nat} {k2 : IntKind} {p2 : Int} (ho : o.op = .slice t x none (some y2) none) (hx : Ev n E x (.slice (some ⟨g, 0, none⟩) m c)) (ht : P.underlying t = some (.slice e)) (hs : szT P e = some sz)
    (h2 : Ev n E y2 (.int k2 p2)) (e2 : p2 = (h : Int)) (hhc : h ≤ c) : Gives P n C o E (.slice (some ⟨g, 0, none⟩) h c) := by
  have := g_slice (C := C) (kl := .i64) (p := 0) (l := 0) ho hx ht hs rfl ⟨h2, e2⟩ (Nat.zero_le _) hhc
  rw [subA_zero, Nat.sub_zero, Nat.sub_zero] at this
  exact this
theorem g_sliceP {t e : TypeId} {x y1 y2 : Operand} {g m c l h q : Nat} {k1 k2 : IntKind} {p1 p2 : Int} (ho : o.op = .slice t x (some y1) (some y2) none) (hx : Ev n E x (.slice (some ⟨g, 0, none⟩) m c)) (ht : P.underlying t = some (.slice e)) (hs : szT P e = some 1)
    (h1 : Ev n E y1 (.int k1 p1)) (h2 : Ev n E y2 (.int k2 p2)) (e1 : p1 = (l : Int)) (e2 : p2 = (h : Int)) (hlh : l ≤ h) (hhc : h ≤ c) (hlc : l < c) (hq : h - l = q) : Gives P n C o E (.slice (some ⟨g, l, none⟩) q (c - l)) := by
  have := g_slice (C := C) ho hx ht hs ⟨h1, e1⟩ ⟨h2, e2⟩ hlh hhc
  subst hq
  unfold subA at this
  rw [if_neg (by omega), Nat.mul_one] at this
  by_cases h0 : l = 0
  · subst h0; simpa [Addr.add] using this
  · simpa [Addr.add, h0] using this
theorem WL1.appendPtQ {t e : TypeId} {x y : Operand} {d g i c k q bytes : Nat} {z src : Value} {cur news : List Value} {L1 : List Asrt} (hE : Elem P t e z 1 bytes)
    (ho : o.op = .call { callee := .builtin .append, args := #[x, y], argTypes := #[t, t] }) (hd : o.dst = some d) (hx : Ev n E x (.slice (some ⟨g, 0, none⟩) i c)) (hy : Ev n E y src)
    (hsl : ∀ w, H w0 L w → Sl w 1 src k news) (h1 : ∀ u ∈ news, u.oneCell' = true) (hroom : i + k ≤ c) (hl : cur.length = c) (hq : i + k = q) (hs : Swap (pt g e cur) (pt g e (spl cur i news)) L L1)
    (h : WL P n w0 ops K rest (E.set d (.slice (some ⟨g, 0, none⟩) q c)) L1) : WL1 P n w0 ops K o rest E L := by
  subst hq
  exact WL1.appendPt hE ho hd hx hy hsl h1 hroom hl hs h
end
theorem ptrs_one (es : List En) : ∀ u ∈ ptrs es, u.oneCell' = true := fun u hu => by
  obtain ⟨e, _, rfl⟩ := List.mem_map.1 hu
  exact cellPtr_one _ _
theorem spl_take {xs vs : List Value} {k : Nat} (h : k ≤ xs.length) : (spl xs k vs).take k = xs.take k := by
  unfold spl
  rw [List.append_assoc, List.take_append_of_le_length (by rw [List.length_take]; omega), List.take_take, Nat.min_self]
theorem del_cells {cur xs : List Value} {k m : Nat} {z : Value} (hm : xs.length = m) (hc : cur.take m = xs) (hk : k < m) (hl : m ≤ cur.length) :
    (spl (spl cur k (xs.drop (k + 1))) (m - 1) [z]).take (m - 1) = xs.eraseIdx k := by
  have h1 : (spl cur k (xs.drop (k + 1))).length = cur.length := spl_len (by rw [List.length_drop]; omega)
  have h2 : (cur.take k).length = k := by rw [List.length_take]; omega
  have h3 : (xs.drop (k + 1)).length = m - (k + 1) := by rw [List.length_drop]; omega
  have h4 : (cur.take k ++ xs.drop (k + 1)).length = m - 1 := by rw [List.length_append]; omega
  have h5 : spl cur k (xs.drop (k + 1)) = (cur.take k ++ xs.drop (k + 1)) ++ cur.drop (k + (xs.drop (k + 1)).length) := rfl
  rw [spl_take (by omega), List.eraseIdx_eq_take_drop_succ, h5, List.take_append_of_le_length (by omega), List.take_of_length_le (by omega)]
  congr 1
  rw [← hc, List.take_take, Nat.min_eq_left (by omega)]
section
variable {w0 w : World} {L : List Asrt} {S c b : Nat} {A : Option Addr} {last x : Int} {es : List En} {e : En}
theorem own_pt {g k m c : Nat} {cur xs : List Value} (hl : cur.length = c) (hm : m ≤ c) (hc : c ≤ maxLen) (ht : cur.take m = xs) (hk : k + 1 ≤ m) : ∀ w', H w0 (pt g PT cur :: L) w' → Sl w' 1 (.slice (subA (some ⟨g, 0, none⟩) c (k + 1) 1) (m - (k + 1)) (c - (k + 1))) (m - (k + 1)) (xs.drop (k + 1)) := fun w' hw' => by
  have hxl : xs.length = m := by rw [← ht, List.length_take]; omega
  have h1 : H w0 (vec (some ⟨g, 0, none⟩) m c PT 1 (cur.take (m * 1)) :: L) w' := (Imp.ptvec (by omega) hm hc).h hw'
  rw [Nat.mul_one, ht] at h1
  have h2 := (Sl.of_vec h1 (.head _)).sub (l := k + 1) (h := m) hk (Nat.le_refl _)
  rw [Nat.mul_one, Nat.mul_one, List.take_of_length_le (by rw [List.length_drop]; omega)] at h2
  exact h2
set_option maxRecDepth 20000 in
theorem delete_e {m k : Nat} {xs : List Value} (hx : xs.length = m) (h1 : ∀ u ∈ xs, u.oneCell' = true) (hk : k < m) (hm : m ≤ 1000) (hw : H w0 (vec A m c PT 1 xs :: L) w) :
    Calls Try.prog 23 #[.slice A m c, iv k, iv ((k : Int) + 1)] w fun e w' => ∃ u L', e = .returned u ∧ H w0 L' w' ∧ u = .slice A (m - 1) c ∧ L' = vec A (m - 1) c PT 1 (xs.eraseIdx k) :: L := by
  obtain ⟨g, cur, rfl, hl, hmc, hcm, htk, hw'⟩ := vec_pt hw (by omega)
  rw [Nat.mul_one] at hl htk
  have hsrc := own_pt (L := L) (w0 := w0) (g := g) hl hmc hcm htk hk
  have hd1 : ∀ u ∈ xs.drop (k + 1), u.oneCell' = true := fun u hu => h1 u (List.mem_of_mem_drop hu)
  refine calls_wc (args := [.slice (some ⟨g, 0, none⟩) m c, iv k, iv ((k : Int) + 1)]) [6] (pt g PT cur :: L) Try.func23 rfl Try.ntmps23 rfl rfl rfl rfl hw' ?_
  (refine WC.seq ?_; intro K hK)
  refine WC.region rfl ?_
  refine WL.want rfl (WL1.give rfl (g_assign rfl (.mk (v := .slice _ _ _) rfl rfl)) ?_)
  refine WL.nil ?_
  (refine hK _ _ ?_; clear hK)
  (refine WC.seq ?_; intro K hK)
  refine WC.region rfl ?_
  refine WL.want rfl (WL1.give rfl (g_move rfl (.mk (v := .slice _ _ _) rfl rfl)) ?_)
  refine WL.want rfl (WL1.give rfl (g_move rfl (.mk (v := .int _ _) rfl rfl)) ?_)
  refine WL.want rfl (WL1.give rfl (g_move rfl (.mk (v := .int _ _) rfl rfl)) ?_)
  refine WL.want rfl (WL1.give rfl (g_move rfl (.mk (v := .slice _ _ _) rfl rfl)) ?_)
  refine WL.want rfl (WL1.give rfl (g_len rfl (.mk rfl rfl) rfl) ?_)
  refine WL.want rfl (WL1.give rfl (g_slice3 (sz := 1) rfl (.mk rfl rfl) rfl rfl (.mk rfl rfl) (.mk rfl rfl) (.mk rfl rfl) rfl (show _ = ((k + 1 : Nat) : Int) by omega) rfl (by omega) (by omega) (by omega)) ?_)
  refine WL.nil ?_
  (refine hK _ _ ?_; clear hK)
  (refine WC.seq ?_; intro K hK)
  (refine WC.seq ?_; intro K hK)
  refine WC.region rfl ?_
  refine WL.want rfl (WL1.give rfl (g_move rfl (.mk (v := .int _ _) rfl rfl)) ?_)
  refine WL.want rfl (WL1.give rfl (g_move rfl (.mk (v := .int _ _) rfl rfl)) ?_)
  refine WL.want rfl (WL1.give rfl (g_eq rfl (.mk rfl rfl) (.mk rfl rfl) (decide_eq_false (by omega))) ?_)
  refine WL.nil ?_
  (refine hK _ _ ?_; clear hK)
  refine WC.cond_false (.mk rfl rfl) ?_
  refine WC.skip ?_
  (refine hK _ _ ?_; clear hK)
  (refine WC.seq ?_; intro K hK)
  refine WC.region rfl ?_
  refine WL.want rfl (WL1.give rfl (g_move rfl (.mk (v := .slice _ _ _) rfl rfl)) ?_)
  refine WL.want rfl (WL1.give rfl (g_len rfl (.mk rfl rfl) rfl) ?_)
  refine WL.want rfl (WL1.give rfl (g_assign rfl (.mk (v := .int _ _) rfl rfl)) ?_)
  refine WL.nil ?_
  (refine hK _ _ ?_; clear hK)
  (refine WC.seq ?_; intro K hK)
  refine WC.split 0 rfl (by kernel_rfl) (by decide +kernel) ?_
  refine WQ.nil ?_
  refine WY.take 0 rfl (by decide +kernel) (by decide +kernel) (by decide +kernel) rfl rfl (g_move rfl (.mk (v := .slice _ _ _) rfl rfl)) ?_
  refine WY.take 1 rfl (by decide +kernel) (by decide +kernel) (by decide +kernel) rfl rfl (g_move rfl (.mk (v := .int _ _) rfl rfl)) ?_
  refine WY.take 2 rfl (by decide +kernel) (by decide +kernel) (by decide +kernel) rfl rfl (g_slice0 (sz := 1) rfl (.mk rfl rfl) rfl rfl (.mk rfl rfl) rfl (by omega)) ?_
  refine WY.take 3 rfl (by decide +kernel) (by decide +kernel) (by decide +kernel) rfl rfl (g_move rfl (.mk (v := .slice _ _ _) rfl rfl)) ?_
  refine WY.take 4 rfl (by decide +kernel) (by decide +kernel) (by decide +kernel) rfl rfl (g_move rfl (.mk (v := .int _ _) rfl rfl)) ?_
  refine WY.take 5 rfl (by decide +kernel) (by decide +kernel) (by decide +kernel) rfl rfl (g_slice (sz := 1) (kh := .i64) (q := 0) rfl (.mk rfl rfl) rfl rfl ⟨(.mk rfl rfl), (show _ = ((k + 1 : Nat) : Int) by omega)⟩ rfl (by omega) (by omega)) ?_
  refine WY.one 6 (by decide +kernel) rfl rfl ?_
  refine WL1.appendPtQ elP rfl rfl (.mk rfl rfl) (.mk rfl rfl) hsrc hd1 (by omega) hl (show _ = m - 1 by omega) .head ?_
  refine WL.nil ?_
  refine WY.take 7 rfl (by decide +kernel) (by decide +kernel) (by decide +kernel) rfl rfl (g_assign rfl (.mk (v := .slice _ _ _) rfl rfl)) ?_
  refine WY.done (by decide +kernel) ?_
  (refine hK _ _ ?_; clear hK)
  (refine WC.seq ?_; intro K hK)
  refine WC.region rfl ?_
  refine WL.want rfl (WL1.give rfl (g_move rfl (.mk (v := .slice _ _ _) rfl rfl)) ?_)
  refine WL.want rfl (WL1.give rfl (g_move rfl (.mk (v := .slice _ _ _) rfl rfl)) ?_)
  refine WL.want rfl (WL1.give rfl (g_len rfl (.mk rfl rfl) rfl) ?_)
  refine WL.want rfl (WL1.give rfl (g_move rfl (.mk (v := .int _ _) rfl rfl)) ?_)
  refine WL.want rfl (WL1.give rfl (g_sliceP rfl (.mk rfl rfl) rfl rfl (.mk rfl rfl) (.mk rfl rfl) rfl rfl (by omega) (by omega) (by omega) (show _ = 1 by omega)) ?_)
  refine WL.want rfl (WL1.clearPt (z := .pointer none) elP rfl rfl rfl rfl (.mk rfl rfl) (by omega) (by rw [spl_len (by rw [List.length_drop]; omega)]; omega) .head ?_)
  refine WL.nil ?_
  (refine hK _ _ ?_; clear hK)
  (refine WC.seq ?_; intro K hK)
  refine WC.region rfl ?_
  refine WL.want rfl (WL1.give rfl (g_move rfl (.mk (v := .slice _ _ _) rfl rfl)) ?_)
  refine WL.want rfl (WL1.give rfl (g_assign rfl (.mk (v := .slice _ _ _) rfl rfl)) ?_)
  refine WL.nil ?_
  (refine hK _ _ ?_; clear hK)
  refine WC.ret ?_
  intro w2 hw2
  refine ⟨_, _, rfl, (Imp.ptvec (sz := 1) (m := m - 1) (c := c) ?_ (show m - 1 ≤ c by omega) hcm).h hw2, rfl, ?_⟩
  · rw [Nat.mul_one, spl_len, spl_len, hl]
    · rw [List.length_drop]; omega
    · rw [spl_len]
      · simp; omega
      · rw [List.length_drop]; omega
  · rw [Nat.mul_one, show List.replicate 1 (Value.pointer none) = [Value.pointer none] from rfl, del_cells hx htk hk (by omega)]
end
end Go.Proofs.Ytbofagfilohhfaa
