/- ThrottleBound answers true, whatever the rate, the burst and the calls: in every row of steps the tokens that are taken are at most the burst plus the rate times the ticks. No condition. -/
import Derived.Test.YtcdpffndpaldoaaThr6
namespace Go.Proofs.Ytcdpffndpaldoaa.LThrottleBound
open Go.RowKit Go.WideShapes Go.ChangeShapes Go.ChangeAt
attribute [local irreducible] Calls

/-- The sum of m numbers from place i on. -/
def sumL (l : List Int) (i : Nat) : Nat → Int
  | 0 => 0
  | m + 1 => sumL l i m + nth l (i + m)
theorem sumL_congr {l l' : List Int} {i : Nat} : ∀ {m : Nat}, (∀ j, j < i + m → nth l' j = nth l j) → sumL l' i m = sumL l i m
  | 0, _ => rfl
  | m + 1, h => by rw [sumL, sumL, sumL_congr fun j hj => h j (by omega), h (i + m) (by omega)]
theorem sumL_range {l : List Int} {i : Nat} {U : Int} (h : ∀ j, 0 ≤ nth l j ∧ nth l j ≤ U) : ∀ m : Nat, 0 ≤ sumL l i m ∧ sumL l i m ≤ U * m
  | 0 => by simp [sumL]
  | m + 1 => by
    have := sumL_range h m (i := i)
    have := h (i + m)
    rw [sumL, show ((m + 1 : Nat) : Int) = (m : Int) + 1 from rfl, Int.mul_add, Int.mul_one]
    omega
/-- What holds after k steps. -/
structure Bnd (r B : Int) (n k : Nat) (l : Int) (ts tc : List Int) : Prop where
  hk : k ≤ n
  lt : ts.length = n
  lc : tc.length = n
  ok : BkOk r B l
  rt : ∀ j, 0 ≤ nth ts j ∧ nth ts j ≤ 1073741824
  rc : ∀ j, 0 ≤ nth tc j ∧ nth tc j ≤ 1048576
  zt : ∀ j, k ≤ j → nth ts j = 0
  zc : ∀ j, k ≤ j → nth tc j = 0
  sum : ∀ i m, i + m = k → l + sumL ts i m ≤ B + r * sumL tc i m
  all : ∀ i m, i + m ≤ k → sumL ts i m ≤ B + r * sumL tc i m
theorem nth_rep (n j : Nat) : nth (List.replicate n (0 : Int)) j = 0 := by
  unfold nth
  rw [List.getD_eq_getElem?_getD]
  rcases Nat.lt_or_ge j n with h | h
  · rw [List.getElem?_replicate, if_pos h]; rfl
  · rw [List.getElem?_replicate, if_neg (by omega)]; rfl
theorem Bnd.start {r B : Int} {n : Nat} (h : BkOk r B B) : Bnd r B n 0 B (List.replicate n 0) (List.replicate n 0) :=
  ⟨by omega, by simp, by simp, h, fun j => by rw [nth_rep]; omega, fun j => by rw [nth_rep]; omega, fun j _ => nth_rep n j, fun j _ => nth_rep n j, fun i m hm => by
    obtain ⟨rfl, rfl⟩ : i = 0 ∧ m = 0 := by omega
    simp [sumL], fun i m hm => by
    obtain ⟨rfl, rfl⟩ : i = 0 ∧ m = 0 := by omega
    have := h.2.2.1
    simp [sumL]; omega⟩
theorem nth_set {l : List Int} {k j : Nat} {a : Int} (hk : k < l.length) : nth (l.set k a) j = if j = k then a else nth l j := by
  unfold nth
  rw [List.getD_eq_getElem?_getD, List.getD_eq_getElem?_getD, List.getElem?_set]
  by_cases h : j = k
  · subst h; rw [if_pos rfl, if_pos hk, if_pos rfl]; rfl
  · rw [if_neg (fun e => h e.symm), if_neg h]
theorem Bnd.step {r B : Int} {n k : Nat} {l l' a b : Int} {ts tc ts' tc' : List Int} (h : Bnd r B n k l ts tc) (hk : k < n) (ht : ts'.length = n) (hc : tc'.length = n) (ht2 : ∀ j, nth ts' j = if j = k then a else nth ts j) (hc2 : ∀ j, nth tc' j = if j = k then b else nth tc j)
    (a0 : 0 ≤ a) (a1 : a ≤ 1073741824) (b0 : 0 ≤ b) (b1 : b ≤ 1048576) (hok : BkOk r B l') (hl : l' + a ≤ l + r * b) : Bnd r B n (k + 1) l' ts' tc' := by
  have hs : ∀ i m, i + m = k + 1 → l' + sumL ts' i m ≤ B + r * sumL tc' i m := fun i m hm => by
    cases m with
    | zero => have := hok.2.2.2.2.2; simp [sumL]; exact this
    | succ m =>
      obtain rfl : i + m = k := by omega
      rw [sumL, sumL, sumL_congr (l := ts) (l' := ts') fun j hj => by rw [ht2, if_neg (by omega)], sumL_congr (l := tc) (l' := tc') fun j hj => by rw [hc2, if_neg (by omega)], ht2, if_pos rfl, hc2, if_pos rfl, Int.mul_add]
      have := h.sum i m rfl
      omega
  refine ⟨hk, ht, hc, hok, fun j => by rw [ht2]; split; exact ⟨a0, a1⟩; exact h.rt j, fun j => by rw [hc2]; split; exact ⟨b0, b1⟩; exact h.rc j,
   fun j hj => by rw [ht2, if_neg (by omega)]; exact h.zt j (by omega), fun j hj => by rw [hc2, if_neg (by omega)]; exact h.zc j (by omega), hs, fun i m hm => ?_⟩
  by_cases h1 : i + m = k + 1
  · have := hs i m h1; have := hok.2.2.2.2.1; omega
  · rw [sumL_congr (l := ts) (l' := ts') fun j hj => by rw [ht2, if_neg (by omega)], sumL_congr (l := tc) (l' := tc') fun j hj => by rw [hc2, if_neg (by omega)]]
    exact h.all i m (by omega)
theorem elI : Elem Try.prog 42 3 (iv 0) 1 8 := ⟨by kernel_rfl, by kernel_rfl, rfl, by decide⟩
theorem mk0 (n : Nat) : (madeCells (iv 0).cells (n * 1)).toList = (List.replicate n (0 : Int)).map iv := by
  rw [show (iv 0).cells = #[iv 0] from rfl, made_one, List.map_replicate]
theorem set_map (l : List Int) (k : Nat) (a : Int) : (l.map iv).set k (iv a) = (l.set k a).map iv := by rw [List.map_set]
theorem set_get {xs : List Value} {k : Nat} {v : Value} (h : k < xs.length) : (xs.set k v)[k]? = some v := List.getElem?_set_self h
theorem nth_keep {l : List Int} {k : Nat} (h : nth l k = 0) (j : Nat) : nth l j = if j = k then 0 else nth l j := by
  by_cases e : j = k
  · rw [if_pos e, e, h]
  · rw [if_neg e]
set_option maxRecDepth 20000 in
set_option maxHeartbeats 1000000 in
theorem walk (w : World) (r : Int) (r1 : -9223372036854775808 ≤ r) (r2 : r ≤ 9223372036854775807) (B : Int) (b1 : -9223372036854775808 ≤ B) (b2 : B ≤ 9223372036854775807) (v : Value) (ss : List Stp) (hv : Sl w 2 v ss.length (ss.flatMap Stp.cells)) (hr : ∀ s ∈ ss, s.ok) :
    Calls Try.prog 5 #[iv r, iv B, v] w fun en w' => en = .returned (.bool true) ∧ Below w.heap.size w w' := by
  obtain ⟨A, c, rfl, hc, hm, hs⟩ := hv.open_
  by_cases hok : BkOk r B B
  · by_cases hn : ss.length ≤ 40
    · refine calls_wc (args := [iv r, iv B, .slice A ss.length c]) [6] [] Try.func5 rfl Try.ntmps5 rfl rfl rfl rfl (H.refl w) ?_
      (refine WC.seq ?_; intro K hK)
      refine WC.region ?_
      refine WL.want rfl (WL1.give rfl (g_assign rfl (.mk (v := .bool _) rfl rfl)) ?_)
      refine WL.nil ?_
      (refine hK _ _ ?_; clear hK)
      (refine WC.seq ?_; intro K hK)
      (refine WC.seq ?_; intro K hK)
      refine WC.region ?_
      refine WL.want rfl (WL1.callP rfl rfl rfl .nil (fun w hw => awake_e) ?_)
      refine WL.want rfl (WL1.give rfl (g_notT rfl (.mk rfl rfl)) ?_)
      refine WL.nil ?_
      (refine hK _ _ ?_; clear hK)
      refine WC.cond_false (.mk rfl rfl) ?_
      refine WC.skip ?_
      (refine hK _ _ ?_; clear hK)
      (refine WC.seq ?_; intro K hK)
      (refine WC.seq ?_; intro K hK)
      refine WC.region ?_
      refine WL.want rfl (WL1.give rfl (g_move rfl (.mk (v := .int _ _) rfl rfl)) ?_)
      refine WL.want rfl (WL1.give rfl (g_move rfl (.mk (v := .int _ _) rfl rfl)) ?_)
      refine WL.want rfl (WL1.callP rfl rfl rfl (.cons (.mk (v := .int _ _) rfl rfl) (.cons (.mk (v := .int _ _) rfl rfl) .nil)) (fun w hw => valid_yes hok) ?_)
      refine WL.want rfl (WL1.give rfl (g_notT rfl (.mk rfl rfl)) ?_)
      refine WL.want rfl (WL1.give rfl (g_move rfl (.mk (v := .bool _) rfl rfl)) ?_)
      refine WL.wantG rfl rfl rfl rfl (WL1.give rfl (g_move rfl (.mk (v := .slice _ _ _) rfl rfl)) ?_)
      refine WL.wantG rfl rfl rfl rfl (WL1.give rfl (g_len rfl (.mk rfl rfl) rfl) ?_)
      refine WL.wantG rfl rfl rfl rfl (WL1.give rfl (g_gt rfl (.mk rfl rfl) (.mk rfl rfl) (decide_eq_false (by omega))) ?_)
      refine WL.want rfl (WL1.give rfl (g_pickF rfl (.mk rfl rfl) (.mk (v := .bool _) rfl rfl)) ?_)
      refine WL.nil ?_
      (refine hK _ _ ?_; clear hK)
      refine WC.cond_false (.mk rfl rfl) ?_
      refine WC.skip ?_
      (refine hK _ _ ?_; clear hK)
      (refine WC.seq ?_; intro K hK)
      refine WC.region ?_
      refine WL.want rfl (WL1.give rfl (g_move rfl (.mk (v := .int _ _) rfl rfl)) ?_)
      refine WL.want rfl (WL1.give rfl (g_move rfl (.mk (v := .int _ _) rfl rfl)) ?_)
      (refine WL.want rfl (WL1.callN rfl rfl rfl (.cons (.mk (v := .int _ _) rfl rfl) (.cons (.mk (v := .int _ _) rfl rfl) .nil)) (fun w hw => new_ok hok) ?_); rintro _ _ ⟨b, rfl, rfl⟩)
      refine WL.want rfl (WL1.give rfl (g_move rfl (.mk (v := .tuple _) rfl rfl)) ?_)
      refine WL.want rfl (WL1.give rfl (g_extract rfl (.mk rfl rfl) rfl) ?_)
      refine WL.want rfl (WL1.give rfl (g_extract rfl (.mk rfl rfl) rfl) ?_)
      refine WL.want rfl (WL1.give rfl (g_assign rfl (.mk (v := cellPtr _ _) rfl rfl)) ?_)
      refine WL.want rfl (WL1.give rfl (g_assign rfl (.mk (v := .int _ _) rfl rfl)) ?_)
      refine WL.nil ?_
      (refine hK _ _ ?_; clear hK)
      (refine WC.seq ?_; intro K hK)
      (refine WC.seq ?_; intro K hK)
      refine WC.region ?_
      refine WL.want rfl (WL1.give rfl (g_move rfl (.mk (v := .int _ _) rfl rfl)) ?_)
      refine WL.want rfl (WL1.give rfl (g_ne rfl (.mk rfl rfl) (.mk rfl rfl) (decide_eq_false (by omega))) ?_)
      refine WL.nil ?_
      (refine hK _ _ ?_; clear hK)
      refine WC.cond_false (.mk rfl rfl) ?_
      refine WC.skip ?_
      (refine hK _ _ ?_; clear hK)
      refine WC.seqM 4329327035904 (fun g : Nat × Nat => [(9, .slice (some ⟨g.1, 0, none⟩) ss.length ss.length), (10, .slice (some ⟨g.2, 0, none⟩) ss.length ss.length)]) (fun g => [bkt b r B B, vec (some ⟨g.1, 0, none⟩) ss.length ss.length 3 1 (madeCells (iv 0).cells (ss.length * 1)).toList, vec (some ⟨g.2, 0, none⟩) ss.length ss.length 3 1 (madeCells (iv 0).cells (ss.length * 1)).toList]) ?_ (fun ⟨g1, g2⟩ U => ?_)
      refine WC.split 0 (by kernel_rfl) (by decide +kernel) ?_
      refine WQ.nil ?_
      refine WY.take 0 rfl (by decide +kernel) (by decide +kernel) (by decide +kernel) rfl rfl (g_move rfl (.mk (v := .slice _ _ _) rfl rfl)) ?_
      refine WY.take 3 rfl (by decide +kernel) (by decide +kernel) (by decide +kernel) rfl rfl (g_move rfl (.mk (v := .slice _ _ _) rfl rfl)) ?_
      refine WY.two 1 4 (by decide +kernel) rfl rfl rfl rfl ?_ ?_
      refine WL1.give rfl (g_len rfl (.mk rfl rfl) rfl) ?_
      refine WL.nil ?_
      refine WY.two 2 4 (by decide +kernel) rfl rfl rfl rfl ?_ ?_
      refine WL1.make elI rfl rfl (.mk rfl rfl) (.mk rfl rfl) rfl rfl (by omega) (by unfold maxLen; omega) (fun b38 => ?_)
      refine WL.nil ?_
      refine WY.take 6 rfl (by decide +kernel) (by decide +kernel) (by decide +kernel) rfl rfl (g_assign rfl (.mk (v := .slice _ _ _) rfl rfl)) ?_
      refine WY.one 4 (by decide +kernel) rfl rfl ?_
      refine WL1.give rfl (g_len rfl (.mk rfl rfl) rfl) ?_
      refine WL.nil ?_
      refine WY.one 5 (by decide +kernel) rfl rfl ?_
      refine WL1.make elI rfl rfl (.mk rfl rfl) (.mk rfl rfl) rfl rfl (by omega) (by unfold maxLen; omega) (fun b41 => ?_)
      refine WL.nil ?_
      refine WY.take 7 rfl (by decide +kernel) (by decide +kernel) (by decide +kernel) rfl rfl (g_assign rfl (.mk (v := .slice _ _ _) rfl rfl)) ?_
      refine WY.done (by decide +kernel) ?_
      rotate_left
      refine WL1.give rfl (g_len rfl (.mk rfl rfl) rfl) ?_
      refine WL.nil ?_
      refine WY.two 2 5 (by decide +kernel) rfl rfl rfl rfl ?_ ?_
      refine WL1.make elI rfl rfl (.mk rfl rfl) (.mk rfl rfl) rfl rfl (by omega) (by unfold maxLen; omega) (fun b38 => ?_)
      refine WL.nil ?_
      refine WY.take 6 rfl (by decide +kernel) (by decide +kernel) (by decide +kernel) rfl rfl (g_assign rfl (.mk (v := .slice _ _ _) rfl rfl)) ?_
      refine WY.one 5 (by decide +kernel) rfl rfl ?_
      refine WL1.make elI rfl rfl (.mk rfl rfl) (.mk rfl rfl) rfl rfl (by omega) (by unfold maxLen; omega) (fun b41 => ?_)
      refine WL.nil ?_
      refine WY.take 7 rfl (by decide +kernel) (by decide +kernel) (by decide +kernel) rfl rfl (g_assign rfl (.mk (v := .slice _ _ _) rfl rfl)) ?_
      refine WY.done (by decide +kernel) ?_
      rotate_left
      refine WL1.make elI rfl rfl (.mk rfl rfl) (.mk rfl rfl) rfl rfl (by omega) (by unfold maxLen; omega) (fun b41 => ?_)
      refine WL.nil ?_
      refine WY.one 2 (by decide +kernel) rfl rfl ?_
      refine WL1.make elI rfl rfl (.mk rfl rfl) (.mk rfl rfl) rfl rfl (by omega) (by unfold maxLen; omega) (fun b38 => ?_)
      refine WL.nil ?_
      refine WY.take 6 rfl (by decide +kernel) (by decide +kernel) (by decide +kernel) rfl rfl (g_assign rfl (.mk (v := .slice _ _ _) rfl rfl)) ?_
      refine WY.take 7 rfl (by decide +kernel) (by decide +kernel) (by decide +kernel) rfl rfl (g_assign rfl (.mk (v := .slice _ _ _) rfl rfl)) ?_
      refine WY.done (by decide +kernel) ?_
      rotate_left
      refine WL1.give rfl (g_len rfl (.mk rfl rfl) rfl) ?_
      refine WL.nil ?_
      refine WY.two 1 5 (by decide +kernel) rfl rfl rfl rfl ?_ ?_
      refine WL1.give rfl (g_len rfl (.mk rfl rfl) rfl) ?_
      refine WL.nil ?_
      refine WY.two 2 5 (by decide +kernel) rfl rfl rfl rfl ?_ ?_
      refine WL1.make elI rfl rfl (.mk rfl rfl) (.mk rfl rfl) rfl rfl (by omega) (by unfold maxLen; omega) (fun b38 => ?_)
      refine WL.nil ?_
      refine WY.take 6 rfl (by decide +kernel) (by decide +kernel) (by decide +kernel) rfl rfl (g_assign rfl (.mk (v := .slice _ _ _) rfl rfl)) ?_
      refine WY.one 5 (by decide +kernel) rfl rfl ?_
      refine WL1.make elI rfl rfl (.mk rfl rfl) (.mk rfl rfl) rfl rfl (by omega) (by unfold maxLen; omega) (fun b41 => ?_)
      refine WL.nil ?_
      refine WY.take 7 rfl (by decide +kernel) (by decide +kernel) (by decide +kernel) rfl rfl (g_assign rfl (.mk (v := .slice _ _ _) rfl rfl)) ?_
      refine WY.done (by decide +kernel) ?_
      rotate_left
      refine WL1.make elI rfl rfl (.mk rfl rfl) (.mk rfl rfl) rfl rfl (by omega) (by unfold maxLen; omega) (fun b41 => ?_)
      refine WL.nil ?_
      refine WY.one 2 (by decide +kernel) rfl rfl ?_
      refine WL1.make elI rfl rfl (.mk rfl rfl) (.mk rfl rfl) rfl rfl (by omega) (by unfold maxLen; omega) (fun b38 => ?_)
      refine WL.nil ?_
      refine WY.take 6 rfl (by decide +kernel) (by decide +kernel) (by decide +kernel) rfl rfl (g_assign rfl (.mk (v := .slice _ _ _) rfl rfl)) ?_
      refine WY.take 7 rfl (by decide +kernel) (by decide +kernel) (by decide +kernel) rfl rfl (g_assign rfl (.mk (v := .slice _ _ _) rfl rfl)) ?_
      refine WY.done (by decide +kernel) ?_
      rotate_left
      refine WL1.make elI rfl rfl (.mk rfl rfl) (.mk rfl rfl) rfl rfl (by omega) (by unfold maxLen; omega) (fun b41 => ?_)
      refine WL.nil ?_
      refine WY.one 1 (by decide +kernel) rfl rfl ?_
      refine WL1.give rfl (g_len rfl (.mk rfl rfl) rfl) ?_
      refine WL.nil ?_
      refine WY.one 2 (by decide +kernel) rfl rfl ?_
      refine WL1.make elI rfl rfl (.mk rfl rfl) (.mk rfl rfl) rfl rfl (by omega) (by unfold maxLen; omega) (fun b38 => ?_)
      refine WL.nil ?_
      refine WY.take 6 rfl (by decide +kernel) (by decide +kernel) (by decide +kernel) rfl rfl (g_assign rfl (.mk (v := .slice _ _ _) rfl rfl)) ?_
      refine WY.take 7 rfl (by decide +kernel) (by decide +kernel) (by decide +kernel) rfl rfl (g_assign rfl (.mk (v := .slice _ _ _) rfl rfl)) ?_
      refine WY.done (by decide +kernel) ?_
      rotate_left
      (refine WC.seq ?_; intro K hK)
      (refine WC.seq ?_; intro K hK)
      refine WC.region ?_
      refine WL.want rfl (WL1.give rfl (g_assign rfl (.mk (v := .int _ _) rfl rfl)) ?_)
      refine WL.nil ?_
      (refine hK _ _ ?_; clear hK)
      refine WC.block ?_
      rotate_left
      rotate_right
      · rw [mk0]
        refine WC.loop4 (2417851639224860302907456) (fun (k : Nat) (l : Int) (ts tc : List Int) => [(11, iv k)]) (fun k l ts tc => [bkt b r B l, vec (some ⟨g1, 0, none⟩) ss.length ss.length 3 1 (ts.map iv), vec (some ⟨g2, 0, none⟩) ss.length ss.length 3 1 (tc.map iv)]) (fun k l ts tc => Bnd r B ss.length k l ts tc) (fun k _ _ _ => ss.length - k) 0 B (List.replicate ss.length 0) (List.replicate ss.length 0) ⟨rfl, trivial⟩ (.refl _) (Bnd.start hok) ?_
        rintro k l ts tc V hB
        obtain ⟨hk, lt, lc, hl, rt, rc, zt, zc, hsum, hall⟩ := hB
        have hB : Bnd r B ss.length k l ts tc := ⟨hk, lt, lc, hl, rt, rc, zt, zc, hsum, hall⟩
        have lt2 : (ts.map iv).length = ss.length := by simpa using lt
        have lc2 : (tc.map iv).length = ss.length := by simpa using lc
        by_cases hlt : k < ss.length
        · have hst := stp_ok hr hlt
          have z1 := zt k (by omega)
          have z2 := zc k (by omega)
          by_cases hbig : (nth ss k).n ≤ 1048576
          · cases hb : (nth ss k).take with
            | true =>
              by_cases hy : 0 ≤ (nth ss k).n ∧ (nth ss k).n ≤ l
              · obtain ⟨hy0, hy1⟩ := hy
                (refine WC.seq ?_; intro K hK)
                (refine WC.seq ?_; intro K hK)
                refine WC.region ?_
                refine WL.want rfl (WL1.give rfl (g_move rfl (.mk (v := .int _ _) rfl rfl)) ?_)
                refine WL.want rfl (WL1.give rfl (g_move rfl (.mk (v := .slice _ _ _) rfl rfl)) ?_)
                refine WL.want rfl (WL1.give rfl (g_len rfl (.mk rfl rfl) rfl) ?_)
                refine WL.want rfl (WL1.give rfl (g_lt rfl (.mk rfl rfl) (.mk rfl rfl) (decide_eq_true (by omega))) ?_)
                refine WL.nil ?_
                (refine hK _ _ ?_; clear hK)
                refine WC.cond_true (.mk rfl rfl) ?_
                refine WC.skip ?_
                (refine hK _ _ ?_; clear hK)
                (refine WC.seq ?_; intro K hK)
                refine WC.block ?_
                (refine WC.seq ?_; intro K hK)
                refine WC.region ?_
                refine WL.want rfl (WL1.give rfl (g_move rfl (.mk (v := .slice _ _ _) rfl rfl)) ?_)
                refine WL.want rfl (WL1.give rfl (g_move rfl (.mk (v := .int _ _) rfl rfl)) ?_)
                refine WL.want rfl (WL1.give rfl (g_indexAddr (sz := 2) rfl (.mk rfl rfl) (.mk rfl rfl) rfl rfl rfl (by omega) (fun _ _ => sl_some hs (by omega))) ?_)
                refine WL.want rfl (WL1.give rfl (g_fieldAddr (off := 1) rfl (.mk rfl rfl) rfl (fun _ _ => sl_some hs (by omega))) ?_)
                refine WL.want rfl (WL1.give rfl (g_load rfl (.mk rfl rfl) rfl (rd_sl hs ((flat_get stp2 (by omega) (by decide)).trans rfl))) ?_)
                refine WL.want rfl (WL1.give rfl (g_assign rfl (.mk (v := .int _ _) rfl rfl)) ?_)
                refine WL.nil ?_
                (refine hK _ _ ?_; clear hK)
                (refine WC.seq ?_; intro K hK)
                (refine WC.seq ?_; intro K hK)
                refine WC.region ?_
                refine WL.want rfl (WL1.give rfl (g_move rfl (.mk (v := .int _ _) rfl rfl)) ?_)
                refine WL.want rfl (WL1.give rfl (g_gt rfl (.mk rfl rfl) (.mk rfl rfl) (decide_eq_false (by omega))) ?_)
                refine WL.nil ?_
                (refine hK _ _ ?_; clear hK)
                refine WC.cond_false (.mk rfl rfl) ?_
                refine WC.skip ?_
                (refine hK _ _ ?_; clear hK)
                (refine WC.seq ?_; intro K hK)
                (refine WC.seq ?_; intro K hK)
                refine WC.region ?_
                refine WL.want rfl (WL1.give rfl (g_move rfl (.mk (v := .slice _ _ _) rfl rfl)) ?_)
                refine WL.want rfl (WL1.give rfl (g_move rfl (.mk (v := .int _ _) rfl rfl)) ?_)
                refine WL.want rfl (WL1.give rfl (g_indexAddr (sz := 2) rfl (.mk rfl rfl) (.mk rfl rfl) rfl rfl rfl (by omega) (fun _ _ => sl_some hs (by omega))) ?_)
                refine WL.want rfl (WL1.give rfl (g_fieldAddr (off := 0) rfl (.mk rfl rfl) rfl (fun _ _ => sl_some hs (by omega))) ?_)
                refine WL.want rfl (WL1.give rfl (g_load rfl (.mk rfl rfl) rfl (rd_sl hs ((flat_get stp2 (by omega) (by decide)).trans (stp_take hb)))) ?_)
                refine WL.want rfl (WL1.give rfl (g_notT rfl (.mk rfl rfl)) ?_)
                refine WL.nil ?_
                (refine hK _ _ ?_; clear hK)
                refine WC.cond_false (.mk rfl rfl) ?_
                (refine WC.seq ?_; intro K hK)
                refine WC.region ?_
                refine WL.want rfl (WL1.give rfl (g_move rfl (.mk (v := cellPtr _ _) rfl rfl)) ?_)
                refine WL.want rfl (WL1.give rfl (g_move rfl (.mk (v := .int _ _) rfl rfl)) ?_)
                (refine WL.want rfl (WL1.callF rfl rfl rfl (.cons (.mk (v := cellPtr _ _) rfl rfl) (.cons (.mk (v := .int _ _) rfl rfl) .nil)) (fun w hw => take_yes _ hl hy0 hy1 hw) ?_); rintro _ _ ⟨rfl, rfl⟩)
                refine WL.nil ?_
                (refine hK _ _ ?_; clear hK)
                refine WC.cond_true (.mk rfl rfl) ?_
                refine WC.region ?_
                refine WL.want rfl (WL1.give rfl (g_move rfl (.mk (v := .slice _ _ _) rfl rfl)) ?_)
                refine WL.want rfl (WL1.give rfl (g_move rfl (.mk (v := .int _ _) rfl rfl)) ?_)
                refine WL.want rfl (WL1.give rfl (g_move rfl (.mk (v := .int _ _) rfl rfl)) ?_)
                refine WL.want rfl (WL1.give rfl (g_indexAddr (sz := 1) rfl (.mk rfl rfl) (.mk rfl rfl) rfl rfl rfl (by omega) (fun _ _ => rfl)) ?_)
                refine WL.want rfl (WL1.storeV1 rfl rfl (.mk rfl rfl) (.mk rfl rfl) rfl rfl (by first | omega | (simp; done) | (simp; omega)) (.tail (.head)) ?_)
                refine WL.nil ?_
                (refine hK _ _ ?_; clear hK)
                (refine WC.seq ?_; intro K hK)
                refine WC.region ?_
                refine WL.want rfl (WL1.give rfl (g_move rfl (.mk (v := .slice _ _ _) rfl rfl)) ?_)
                refine WL.want rfl (WL1.give rfl (g_move rfl (.mk (v := .int _ _) rfl rfl)) ?_)
                refine WL.want rfl (WL1.give rfl (g_indexAddr (sz := 1) rfl (.mk rfl rfl) (.mk rfl rfl) rfl rfl rfl (by omega) (fun _ _ => rfl)) ?_)
                refine WL.want rfl (WL1.give rfl (g_load rfl (.mk rfl rfl) rfl (rd_vec (.tail _ (.head _)) (set_get (by omega)))) ?_)
                refine WL.want rfl (WL1.give rfl (g_lt rfl (.mk rfl rfl) (.mk rfl rfl) (decide_eq_false (by omega))) ?_)
                refine WL.nil ?_
                (refine hK _ _ ?_; clear hK)
                refine WC.cond_false (.mk rfl rfl) ?_
                refine WC.skip ?_
                (refine hK _ _ ?_; clear hK)
                refine WC.region ?_
                refine WL.want rfl (WL1.give rfl (g_move rfl (.mk (v := .int _ _) rfl rfl)) ?_)
                refine WL.want rfl (WL1.give rfl (g_add rfl (.mk rfl rfl) (.mk rfl rfl) (IntWalk.i64_in _ (by omega))) ?_)
                refine WL.want rfl (WL1.give rfl (g_assign rfl (.mk (v := .int _ _) rfl rfl)) ?_)
                refine WL.nil ?_
                exact ⟨k + 1, l - (nth ss k).n, ts.set k (nth ss k).n, tc, (by repeat (first | with_reducible exact Out.refl _ _ | refine Out.set rfl ?_ | refine Out.put rfl ?_ | refine Out.sets rfl ?_ | refine Out.hav rfl ?_ | exact Out.refl _ _)), ⟨rfl, trivial⟩, (by rw [Nat.mul_one, ← set_map]; exact .refl _), hB.step hlt (by rw [List.length_set]; exact lt) lc (fun j => nth_set (by omega)) (nth_keep z2) hy0 (by have := hl.2.2.2.1; have := hl.2.2.2.2.2; omega) (by omega) (by omega) ⟨hl.1, hl.2.1, hl.2.2.1, hl.2.2.2.1, by omega, by have := hl.2.2.2.2.2; omega⟩ (by omega), by omega⟩
              · (refine WC.seq ?_; intro K hK)
                (refine WC.seq ?_; intro K hK)
                refine WC.region ?_
                refine WL.want rfl (WL1.give rfl (g_move rfl (.mk (v := .int _ _) rfl rfl)) ?_)
                refine WL.want rfl (WL1.give rfl (g_move rfl (.mk (v := .slice _ _ _) rfl rfl)) ?_)
                refine WL.want rfl (WL1.give rfl (g_len rfl (.mk rfl rfl) rfl) ?_)
                refine WL.want rfl (WL1.give rfl (g_lt rfl (.mk rfl rfl) (.mk rfl rfl) (decide_eq_true (by omega))) ?_)
                refine WL.nil ?_
                (refine hK _ _ ?_; clear hK)
                refine WC.cond_true (.mk rfl rfl) ?_
                refine WC.skip ?_
                (refine hK _ _ ?_; clear hK)
                (refine WC.seq ?_; intro K hK)
                refine WC.block ?_
                (refine WC.seq ?_; intro K hK)
                refine WC.region ?_
                refine WL.want rfl (WL1.give rfl (g_move rfl (.mk (v := .slice _ _ _) rfl rfl)) ?_)
                refine WL.want rfl (WL1.give rfl (g_move rfl (.mk (v := .int _ _) rfl rfl)) ?_)
                refine WL.want rfl (WL1.give rfl (g_indexAddr (sz := 2) rfl (.mk rfl rfl) (.mk rfl rfl) rfl rfl rfl (by omega) (fun _ _ => sl_some hs (by omega))) ?_)
                refine WL.want rfl (WL1.give rfl (g_fieldAddr (off := 1) rfl (.mk rfl rfl) rfl (fun _ _ => sl_some hs (by omega))) ?_)
                refine WL.want rfl (WL1.give rfl (g_load rfl (.mk rfl rfl) rfl (rd_sl hs ((flat_get stp2 (by omega) (by decide)).trans rfl))) ?_)
                refine WL.want rfl (WL1.give rfl (g_assign rfl (.mk (v := .int _ _) rfl rfl)) ?_)
                refine WL.nil ?_
                (refine hK _ _ ?_; clear hK)
                (refine WC.seq ?_; intro K hK)
                (refine WC.seq ?_; intro K hK)
                refine WC.region ?_
                refine WL.want rfl (WL1.give rfl (g_move rfl (.mk (v := .int _ _) rfl rfl)) ?_)
                refine WL.want rfl (WL1.give rfl (g_gt rfl (.mk rfl rfl) (.mk rfl rfl) (decide_eq_false (by omega))) ?_)
                refine WL.nil ?_
                (refine hK _ _ ?_; clear hK)
                refine WC.cond_false (.mk rfl rfl) ?_
                refine WC.skip ?_
                (refine hK _ _ ?_; clear hK)
                (refine WC.seq ?_; intro K hK)
                (refine WC.seq ?_; intro K hK)
                refine WC.region ?_
                refine WL.want rfl (WL1.give rfl (g_move rfl (.mk (v := .slice _ _ _) rfl rfl)) ?_)
                refine WL.want rfl (WL1.give rfl (g_move rfl (.mk (v := .int _ _) rfl rfl)) ?_)
                refine WL.want rfl (WL1.give rfl (g_indexAddr (sz := 2) rfl (.mk rfl rfl) (.mk rfl rfl) rfl rfl rfl (by omega) (fun _ _ => sl_some hs (by omega))) ?_)
                refine WL.want rfl (WL1.give rfl (g_fieldAddr (off := 0) rfl (.mk rfl rfl) rfl (fun _ _ => sl_some hs (by omega))) ?_)
                refine WL.want rfl (WL1.give rfl (g_load rfl (.mk rfl rfl) rfl (rd_sl hs ((flat_get stp2 (by omega) (by decide)).trans (stp_take hb)))) ?_)
                refine WL.want rfl (WL1.give rfl (g_notT rfl (.mk rfl rfl)) ?_)
                refine WL.nil ?_
                (refine hK _ _ ?_; clear hK)
                refine WC.cond_false (.mk rfl rfl) ?_
                (refine WC.seq ?_; intro K hK)
                refine WC.region ?_
                refine WL.want rfl (WL1.give rfl (g_move rfl (.mk (v := cellPtr _ _) rfl rfl)) ?_)
                refine WL.want rfl (WL1.give rfl (g_move rfl (.mk (v := .int _ _) rfl rfl)) ?_)
                (refine WL.want rfl (WL1.callF rfl rfl rfl (.cons (.mk (v := cellPtr _ _) rfl rfl) (.cons (.mk (v := .int _ _) rfl rfl) .nil)) (fun w hw => take_no _ hl (by omega) (by omega) hw) ?_); rintro _ _ ⟨rfl, rfl⟩)
                refine WL.nil ?_
                (refine hK _ _ ?_; clear hK)
                refine WC.cond_false (.mk rfl rfl) ?_
                refine WC.skip ?_
                (refine hK _ _ ?_; clear hK)
                (refine WC.seq ?_; intro K hK)
                refine WC.region ?_
                refine WL.want rfl (WL1.give rfl (g_move rfl (.mk (v := .slice _ _ _) rfl rfl)) ?_)
                refine WL.want rfl (WL1.give rfl (g_move rfl (.mk (v := .int _ _) rfl rfl)) ?_)
                refine WL.want rfl (WL1.give rfl (g_indexAddr (sz := 1) rfl (.mk rfl rfl) (.mk rfl rfl) rfl rfl rfl (by omega) (fun _ _ => rfl)) ?_)
                refine WL.want rfl (WL1.give rfl (g_load rfl (.mk rfl rfl) rfl (rd_vec (.tail _ (.head _)) (get1 (by omega)))) ?_)
                refine WL.want rfl (WL1.give rfl (g_lt rfl (.mk rfl rfl) (.mk rfl rfl) (decide_eq_false (by omega))) ?_)
                refine WL.nil ?_
                (refine hK _ _ ?_; clear hK)
                refine WC.cond_false (.mk rfl rfl) ?_
                refine WC.skip ?_
                (refine hK _ _ ?_; clear hK)
                refine WC.region ?_
                refine WL.want rfl (WL1.give rfl (g_move rfl (.mk (v := .int _ _) rfl rfl)) ?_)
                refine WL.want rfl (WL1.give rfl (g_add rfl (.mk rfl rfl) (.mk rfl rfl) (IntWalk.i64_in _ (by omega))) ?_)
                refine WL.want rfl (WL1.give rfl (g_assign rfl (.mk (v := .int _ _) rfl rfl)) ?_)
                refine WL.nil ?_
                exact ⟨k + 1, l, ts, tc, (by repeat (first | with_reducible exact Out.refl _ _ | refine Out.set rfl ?_ | refine Out.put rfl ?_ | refine Out.sets rfl ?_ | refine Out.hav rfl ?_ | exact Out.refl _ _)), ⟨rfl, trivial⟩, .refl _, hB.step hlt lt lc (nth_keep z1) (nth_keep z2) (by omega) (by omega) (by omega) (by omega) hl (by omega), by omega⟩
            | false =>
              by_cases hy : 0 ≤ (nth ss k).n
              · (refine WC.seq ?_; intro K hK)
                (refine WC.seq ?_; intro K hK)
                refine WC.region ?_
                refine WL.want rfl (WL1.give rfl (g_move rfl (.mk (v := .int _ _) rfl rfl)) ?_)
                refine WL.want rfl (WL1.give rfl (g_move rfl (.mk (v := .slice _ _ _) rfl rfl)) ?_)
                refine WL.want rfl (WL1.give rfl (g_len rfl (.mk rfl rfl) rfl) ?_)
                refine WL.want rfl (WL1.give rfl (g_lt rfl (.mk rfl rfl) (.mk rfl rfl) (decide_eq_true (by omega))) ?_)
                refine WL.nil ?_
                (refine hK _ _ ?_; clear hK)
                refine WC.cond_true (.mk rfl rfl) ?_
                refine WC.skip ?_
                (refine hK _ _ ?_; clear hK)
                (refine WC.seq ?_; intro K hK)
                refine WC.block ?_
                (refine WC.seq ?_; intro K hK)
                refine WC.region ?_
                refine WL.want rfl (WL1.give rfl (g_move rfl (.mk (v := .slice _ _ _) rfl rfl)) ?_)
                refine WL.want rfl (WL1.give rfl (g_move rfl (.mk (v := .int _ _) rfl rfl)) ?_)
                refine WL.want rfl (WL1.give rfl (g_indexAddr (sz := 2) rfl (.mk rfl rfl) (.mk rfl rfl) rfl rfl rfl (by omega) (fun _ _ => sl_some hs (by omega))) ?_)
                refine WL.want rfl (WL1.give rfl (g_fieldAddr (off := 1) rfl (.mk rfl rfl) rfl (fun _ _ => sl_some hs (by omega))) ?_)
                refine WL.want rfl (WL1.give rfl (g_load rfl (.mk rfl rfl) rfl (rd_sl hs ((flat_get stp2 (by omega) (by decide)).trans rfl))) ?_)
                refine WL.want rfl (WL1.give rfl (g_assign rfl (.mk (v := .int _ _) rfl rfl)) ?_)
                refine WL.nil ?_
                (refine hK _ _ ?_; clear hK)
                (refine WC.seq ?_; intro K hK)
                (refine WC.seq ?_; intro K hK)
                refine WC.region ?_
                refine WL.want rfl (WL1.give rfl (g_move rfl (.mk (v := .int _ _) rfl rfl)) ?_)
                refine WL.want rfl (WL1.give rfl (g_gt rfl (.mk rfl rfl) (.mk rfl rfl) (decide_eq_false (by omega))) ?_)
                refine WL.nil ?_
                (refine hK _ _ ?_; clear hK)
                refine WC.cond_false (.mk rfl rfl) ?_
                refine WC.skip ?_
                (refine hK _ _ ?_; clear hK)
                (refine WC.seq ?_; intro K hK)
                (refine WC.seq ?_; intro K hK)
                refine WC.region ?_
                refine WL.want rfl (WL1.give rfl (g_move rfl (.mk (v := .slice _ _ _) rfl rfl)) ?_)
                refine WL.want rfl (WL1.give rfl (g_move rfl (.mk (v := .int _ _) rfl rfl)) ?_)
                refine WL.want rfl (WL1.give rfl (g_indexAddr (sz := 2) rfl (.mk rfl rfl) (.mk rfl rfl) rfl rfl rfl (by omega) (fun _ _ => sl_some hs (by omega))) ?_)
                refine WL.want rfl (WL1.give rfl (g_fieldAddr (off := 0) rfl (.mk rfl rfl) rfl (fun _ _ => sl_some hs (by omega))) ?_)
                refine WL.want rfl (WL1.give rfl (g_load rfl (.mk rfl rfl) rfl (rd_sl hs ((flat_get stp2 (by omega) (by decide)).trans (stp_take hb)))) ?_)
                refine WL.want rfl (WL1.give rfl (g_notF rfl (.mk rfl rfl)) ?_)
                refine WL.nil ?_
                (refine hK _ _ ?_; clear hK)
                refine WC.cond_true (.mk rfl rfl) ?_
                (refine WC.seq ?_; intro K hK)
                refine WC.region ?_
                refine WL.want rfl (WL1.give rfl (g_move rfl (.mk (v := cellPtr _ _) rfl rfl)) ?_)
                refine WL.want rfl (WL1.give rfl (g_move rfl (.mk (v := .int _ _) rfl rfl)) ?_)
                (refine WL.want rfl (WL1.callF rfl rfl rfl (.cons (.mk (v := cellPtr _ _) rfl rfl) (.cons (.mk (v := .int _ _) rfl rfl) .nil)) (fun w hw => tick_e _ hl hw) ?_); rintro _ _ ⟨rfl, rfl⟩)
                refine WL.nil ?_
                (refine hK _ _ ?_; clear hK)
                refine WC.region ?_
                refine WL.want rfl (WL1.give rfl (g_move rfl (.mk (v := .slice _ _ _) rfl rfl)) ?_)
                refine WL.want rfl (WL1.give rfl (g_move rfl (.mk (v := .int _ _) rfl rfl)) ?_)
                refine WL.want rfl (WL1.give rfl (g_move rfl (.mk (v := .int _ _) rfl rfl)) ?_)
                refine WL.want rfl (WL1.give rfl (g_max rfl (.mk rfl rfl) (.mk rfl rfl) (show (if (0 : Int) < (nth ss k).n then (nth ss k).n else 0) = (nth ss k).n from by split <;> omega)) ?_)
                refine WL.want rfl (WL1.give rfl (g_indexAddr (sz := 1) rfl (.mk rfl rfl) (.mk rfl rfl) rfl rfl rfl (by omega) (fun _ _ => rfl)) ?_)
                refine WL.want rfl (WL1.storeV1 rfl rfl (.mk rfl rfl) (.mk rfl rfl) rfl rfl (by first | omega | (simp; done) | (simp; omega)) (.tail (.tail (.head))) ?_)
                refine WL.nil ?_
                (refine hK _ _ ?_; clear hK)
                (refine WC.seq ?_; intro K hK)
                refine WC.region ?_
                refine WL.want rfl (WL1.give rfl (g_move rfl (.mk (v := .slice _ _ _) rfl rfl)) ?_)
                refine WL.want rfl (WL1.give rfl (g_move rfl (.mk (v := .int _ _) rfl rfl)) ?_)
                refine WL.want rfl (WL1.give rfl (g_indexAddr (sz := 1) rfl (.mk rfl rfl) (.mk rfl rfl) rfl rfl rfl (by omega) (fun _ _ => rfl)) ?_)
                refine WL.want rfl (WL1.give rfl (g_load rfl (.mk rfl rfl) rfl (rd_vec (.tail _ (.head _)) (get1 (by omega)))) ?_)
                refine WL.want rfl (WL1.give rfl (g_lt rfl (.mk rfl rfl) (.mk rfl rfl) (decide_eq_false (by omega))) ?_)
                refine WL.nil ?_
                (refine hK _ _ ?_; clear hK)
                refine WC.cond_false (.mk rfl rfl) ?_
                refine WC.skip ?_
                (refine hK _ _ ?_; clear hK)
                refine WC.region ?_
                refine WL.want rfl (WL1.give rfl (g_move rfl (.mk (v := .int _ _) rfl rfl)) ?_)
                refine WL.want rfl (WL1.give rfl (g_add rfl (.mk rfl rfl) (.mk rfl rfl) (IntWalk.i64_in _ (by omega))) ?_)
                refine WL.want rfl (WL1.give rfl (g_assign rfl (.mk (v := .int _ _) rfl rfl)) ?_)
                refine WL.nil ?_
                exact ⟨k + 1, tickV r B l (nth ss k).n, ts, tc.set k (nth ss k).n, (by repeat (first | with_reducible exact Out.refl _ _ | refine Out.set rfl ?_ | refine Out.put rfl ?_ | refine Out.sets rfl ?_ | refine Out.hav rfl ?_ | exact Out.refl _ _)), ⟨rfl, trivial⟩, (by rw [Nat.mul_one, ← set_map]; exact .refl _), hB.step hlt lt (by rw [List.length_set]; exact lc) (nth_keep z1) (fun j => nth_set (by omega)) (by omega) (by omega) hy hbig (tickV_ok hl _) (by have h1 := Int.mul_comm (nth ss k).n r; have h2 := tickV_min hl hy; split at h2 <;> omega), by omega⟩
              · (refine WC.seq ?_; intro K hK)
                (refine WC.seq ?_; intro K hK)
                refine WC.region ?_
                refine WL.want rfl (WL1.give rfl (g_move rfl (.mk (v := .int _ _) rfl rfl)) ?_)
                refine WL.want rfl (WL1.give rfl (g_move rfl (.mk (v := .slice _ _ _) rfl rfl)) ?_)
                refine WL.want rfl (WL1.give rfl (g_len rfl (.mk rfl rfl) rfl) ?_)
                refine WL.want rfl (WL1.give rfl (g_lt rfl (.mk rfl rfl) (.mk rfl rfl) (decide_eq_true (by omega))) ?_)
                refine WL.nil ?_
                (refine hK _ _ ?_; clear hK)
                refine WC.cond_true (.mk rfl rfl) ?_
                refine WC.skip ?_
                (refine hK _ _ ?_; clear hK)
                (refine WC.seq ?_; intro K hK)
                refine WC.block ?_
                (refine WC.seq ?_; intro K hK)
                refine WC.region ?_
                refine WL.want rfl (WL1.give rfl (g_move rfl (.mk (v := .slice _ _ _) rfl rfl)) ?_)
                refine WL.want rfl (WL1.give rfl (g_move rfl (.mk (v := .int _ _) rfl rfl)) ?_)
                refine WL.want rfl (WL1.give rfl (g_indexAddr (sz := 2) rfl (.mk rfl rfl) (.mk rfl rfl) rfl rfl rfl (by omega) (fun _ _ => sl_some hs (by omega))) ?_)
                refine WL.want rfl (WL1.give rfl (g_fieldAddr (off := 1) rfl (.mk rfl rfl) rfl (fun _ _ => sl_some hs (by omega))) ?_)
                refine WL.want rfl (WL1.give rfl (g_load rfl (.mk rfl rfl) rfl (rd_sl hs ((flat_get stp2 (by omega) (by decide)).trans rfl))) ?_)
                refine WL.want rfl (WL1.give rfl (g_assign rfl (.mk (v := .int _ _) rfl rfl)) ?_)
                refine WL.nil ?_
                (refine hK _ _ ?_; clear hK)
                (refine WC.seq ?_; intro K hK)
                (refine WC.seq ?_; intro K hK)
                refine WC.region ?_
                refine WL.want rfl (WL1.give rfl (g_move rfl (.mk (v := .int _ _) rfl rfl)) ?_)
                refine WL.want rfl (WL1.give rfl (g_gt rfl (.mk rfl rfl) (.mk rfl rfl) (decide_eq_false (by omega))) ?_)
                refine WL.nil ?_
                (refine hK _ _ ?_; clear hK)
                refine WC.cond_false (.mk rfl rfl) ?_
                refine WC.skip ?_
                (refine hK _ _ ?_; clear hK)
                (refine WC.seq ?_; intro K hK)
                (refine WC.seq ?_; intro K hK)
                refine WC.region ?_
                refine WL.want rfl (WL1.give rfl (g_move rfl (.mk (v := .slice _ _ _) rfl rfl)) ?_)
                refine WL.want rfl (WL1.give rfl (g_move rfl (.mk (v := .int _ _) rfl rfl)) ?_)
                refine WL.want rfl (WL1.give rfl (g_indexAddr (sz := 2) rfl (.mk rfl rfl) (.mk rfl rfl) rfl rfl rfl (by omega) (fun _ _ => sl_some hs (by omega))) ?_)
                refine WL.want rfl (WL1.give rfl (g_fieldAddr (off := 0) rfl (.mk rfl rfl) rfl (fun _ _ => sl_some hs (by omega))) ?_)
                refine WL.want rfl (WL1.give rfl (g_load rfl (.mk rfl rfl) rfl (rd_sl hs ((flat_get stp2 (by omega) (by decide)).trans (stp_take hb)))) ?_)
                refine WL.want rfl (WL1.give rfl (g_notF rfl (.mk rfl rfl)) ?_)
                refine WL.nil ?_
                (refine hK _ _ ?_; clear hK)
                refine WC.cond_true (.mk rfl rfl) ?_
                (refine WC.seq ?_; intro K hK)
                refine WC.region ?_
                refine WL.want rfl (WL1.give rfl (g_move rfl (.mk (v := cellPtr _ _) rfl rfl)) ?_)
                refine WL.want rfl (WL1.give rfl (g_move rfl (.mk (v := .int _ _) rfl rfl)) ?_)
                (refine WL.want rfl (WL1.callF rfl rfl rfl (.cons (.mk (v := cellPtr _ _) rfl rfl) (.cons (.mk (v := .int _ _) rfl rfl) .nil)) (fun w hw => tick_e _ hl hw) ?_); rintro _ _ ⟨rfl, rfl⟩)
                refine WL.nil ?_
                (refine hK _ _ ?_; clear hK)
                refine WC.region ?_
                refine WL.want rfl (WL1.give rfl (g_move rfl (.mk (v := .slice _ _ _) rfl rfl)) ?_)
                refine WL.want rfl (WL1.give rfl (g_move rfl (.mk (v := .int _ _) rfl rfl)) ?_)
                refine WL.want rfl (WL1.give rfl (g_move rfl (.mk (v := .int _ _) rfl rfl)) ?_)
                refine WL.want rfl (WL1.give rfl (g_max rfl (.mk rfl rfl) (.mk rfl rfl) (if_neg (by omega))) ?_)
                refine WL.want rfl (WL1.give rfl (g_indexAddr (sz := 1) rfl (.mk rfl rfl) (.mk rfl rfl) rfl rfl rfl (by omega) (fun _ _ => rfl)) ?_)
                refine WL.want rfl (WL1.storeV1 rfl rfl (.mk rfl rfl) (.mk rfl rfl) rfl rfl (by first | omega | (simp; done) | (simp; omega)) (.tail (.tail (.head))) ?_)
                refine WL.nil ?_
                (refine hK _ _ ?_; clear hK)
                (refine WC.seq ?_; intro K hK)
                refine WC.region ?_
                refine WL.want rfl (WL1.give rfl (g_move rfl (.mk (v := .slice _ _ _) rfl rfl)) ?_)
                refine WL.want rfl (WL1.give rfl (g_move rfl (.mk (v := .int _ _) rfl rfl)) ?_)
                refine WL.want rfl (WL1.give rfl (g_indexAddr (sz := 1) rfl (.mk rfl rfl) (.mk rfl rfl) rfl rfl rfl (by omega) (fun _ _ => rfl)) ?_)
                refine WL.want rfl (WL1.give rfl (g_load rfl (.mk rfl rfl) rfl (rd_vec (.tail _ (.head _)) (get1 (by omega)))) ?_)
                refine WL.want rfl (WL1.give rfl (g_lt rfl (.mk rfl rfl) (.mk rfl rfl) (decide_eq_false (by omega))) ?_)
                refine WL.nil ?_
                (refine hK _ _ ?_; clear hK)
                refine WC.cond_false (.mk rfl rfl) ?_
                refine WC.skip ?_
                (refine hK _ _ ?_; clear hK)
                refine WC.region ?_
                refine WL.want rfl (WL1.give rfl (g_move rfl (.mk (v := .int _ _) rfl rfl)) ?_)
                refine WL.want rfl (WL1.give rfl (g_add rfl (.mk rfl rfl) (.mk rfl rfl) (IntWalk.i64_in _ (by omega))) ?_)
                refine WL.want rfl (WL1.give rfl (g_assign rfl (.mk (v := .int _ _) rfl rfl)) ?_)
                refine WL.nil ?_
                exact ⟨k + 1, tickV r B l (nth ss k).n, ts, tc.set k 0, (by repeat (first | with_reducible exact Out.refl _ _ | refine Out.set rfl ?_ | refine Out.put rfl ?_ | refine Out.sets rfl ?_ | refine Out.hav rfl ?_ | exact Out.refl _ _)), ⟨rfl, trivial⟩, (by rw [Nat.mul_one, ← set_map]; exact .refl _), hB.step hlt lt (by rw [List.length_set]; exact lc) (nth_keep z1) (fun j => nth_set (by omega)) (by omega) (by omega) (by omega) (by omega) (tickV_ok hl _) (by have e : tickV r B l (nth ss k).n = l := if_pos (by omega); rw [e]; omega), by omega⟩
          · (refine WC.seq ?_; intro K hK)
            (refine WC.seq ?_; intro K hK)
            refine WC.region ?_
            refine WL.want rfl (WL1.give rfl (g_move rfl (.mk (v := .int _ _) rfl rfl)) ?_)
            refine WL.want rfl (WL1.give rfl (g_move rfl (.mk (v := .slice _ _ _) rfl rfl)) ?_)
            refine WL.want rfl (WL1.give rfl (g_len rfl (.mk rfl rfl) rfl) ?_)
            refine WL.want rfl (WL1.give rfl (g_lt rfl (.mk rfl rfl) (.mk rfl rfl) (decide_eq_true (by omega))) ?_)
            refine WL.nil ?_
            (refine hK _ _ ?_; clear hK)
            refine WC.cond_true (.mk rfl rfl) ?_
            refine WC.skip ?_
            (refine hK _ _ ?_; clear hK)
            (refine WC.seq ?_; intro K hK)
            refine WC.block ?_
            (refine WC.seq ?_; intro K hK)
            refine WC.region ?_
            refine WL.want rfl (WL1.give rfl (g_move rfl (.mk (v := .slice _ _ _) rfl rfl)) ?_)
            refine WL.want rfl (WL1.give rfl (g_move rfl (.mk (v := .int _ _) rfl rfl)) ?_)
            refine WL.want rfl (WL1.give rfl (g_indexAddr (sz := 2) rfl (.mk rfl rfl) (.mk rfl rfl) rfl rfl rfl (by omega) (fun _ _ => sl_some hs (by omega))) ?_)
            refine WL.want rfl (WL1.give rfl (g_fieldAddr (off := 1) rfl (.mk rfl rfl) rfl (fun _ _ => sl_some hs (by omega))) ?_)
            refine WL.want rfl (WL1.give rfl (g_load rfl (.mk rfl rfl) rfl (rd_sl hs ((flat_get stp2 (by omega) (by decide)).trans rfl))) ?_)
            refine WL.want rfl (WL1.give rfl (g_assign rfl (.mk (v := .int _ _) rfl rfl)) ?_)
            refine WL.nil ?_
            (refine hK _ _ ?_; clear hK)
            (refine WC.seq ?_; intro K hK)
            (refine WC.seq ?_; intro K hK)
            refine WC.region ?_
            refine WL.want rfl (WL1.give rfl (g_move rfl (.mk (v := .int _ _) rfl rfl)) ?_)
            refine WL.want rfl (WL1.give rfl (g_gt rfl (.mk rfl rfl) (.mk rfl rfl) (decide_eq_true (by omega))) ?_)
            refine WL.nil ?_
            (refine hK _ _ ?_; clear hK)
            refine WC.cond_true (.mk rfl rfl) ?_
            (refine WC.seq ?_; intro K hK)
            refine WC.region ?_
            refine WL.want rfl (WL1.give rfl (g_assign rfl (.mk (v := .bool _) rfl rfl)) ?_)
            refine WL.nil ?_
            (refine hK _ _ ?_; clear hK)
            refine WC.ret ?_
            exact fun w' hw' => ⟨rfl, hw'.1⟩
        · (refine WC.seq ?_; intro K hK)
          (refine WC.seq ?_; intro K hK)
          refine WC.region ?_
          refine WL.want rfl (WL1.give rfl (g_move rfl (.mk (v := .int _ _) rfl rfl)) ?_)
          refine WL.want rfl (WL1.give rfl (g_move rfl (.mk (v := .slice _ _ _) rfl rfl)) ?_)
          refine WL.want rfl (WL1.give rfl (g_len rfl (.mk rfl rfl) rfl) ?_)
          refine WL.want rfl (WL1.give rfl (g_lt rfl (.mk rfl rfl) (.mk rfl rfl) (decide_eq_false (by omega))) ?_)
          refine WL.nil ?_
          (refine hK _ _ ?_; clear hK)
          refine WC.cond_false (.mk rfl rfl) ?_
          refine WC.exit ?_
          (clear hK; refine hK _ _ ?_; clear hK)
          (refine WC.seq ?_; intro K hK)
          (refine WC.seq ?_; intro K hK)
          refine WC.region ?_
          refine WL.want rfl (WL1.give rfl (g_assign rfl (.mk (v := .int _ _) rfl rfl)) ?_)
          refine WL.nil ?_
          (refine hK _ _ ?_; clear hK)
          refine WC.block ?_
          refine WC.loop (10384593714651803617831734309150784) (fun i : Nat => [(13, iv i)]) (fun _ => [bkt b r B l, vec (some ⟨g1, 0, none⟩) ss.length ss.length 3 1 (ts.map iv), vec (some ⟨g2, 0, none⟩) ss.length ss.length 3 1 (tc.map iv)]) (fun i => i ≤ ss.length) (fun i => ss.length - i) 0 ⟨rfl, trivial⟩ (.refl _) (by omega) ?_
          intro i V2 hi
          by_cases hlt2 : i < ss.length
          · (refine WC.seq ?_; intro K hK)
            (refine WC.seq ?_; intro K hK)
            refine WC.region ?_
            refine WL.want rfl (WL1.give rfl (g_move rfl (.mk (v := .int _ _) rfl rfl)) ?_)
            refine WL.want rfl (WL1.give rfl (g_move rfl (.mk (v := .slice _ _ _) rfl rfl)) ?_)
            refine WL.want rfl (WL1.give rfl (g_len rfl (.mk rfl rfl) rfl) ?_)
            refine WL.want rfl (WL1.give rfl (g_lt rfl (.mk rfl rfl) (.mk rfl rfl) (decide_eq_true (by omega))) ?_)
            refine WL.nil ?_
            (refine hK _ _ ?_; clear hK)
            refine WC.cond_true (.mk rfl rfl) ?_
            refine WC.skip ?_
            (refine hK _ _ ?_; clear hK)
            (refine WC.seq ?_; intro K hK)
            refine WC.block ?_
            (refine WC.seq ?_; intro K hK)
            refine WC.region ?_
            refine WL.want rfl (WL1.give rfl (g_assign rfl (.mk (v := .int _ _) rfl rfl)) ?_)
            refine WL.want rfl (WL1.give rfl (g_assign rfl (.mk (v := .int _ _) rfl rfl)) ?_)
            refine WL.nil ?_
            (refine hK _ _ ?_; clear hK)
            (refine WC.seq ?_; intro K hK)
            refine WC.region ?_
            refine WL.want rfl (WL1.give rfl (g_move rfl (.mk (v := .int _ _) rfl rfl)) ?_)
            refine WL.want rfl (WL1.give rfl (g_assign rfl (.mk (v := .int _ _) rfl rfl)) ?_)
            refine WL.nil ?_
            (refine hK _ _ ?_; clear hK)
            refine WC.block ?_
            refine WC.loop (10384593407584645435715923933773888) (fun m : Nat => [(14, iv (sumL ts i m)), (15, iv (sumL tc i m)), (16, iv (i + m : Nat))]) (fun _ => [bkt b r B l, vec (some ⟨g1, 0, none⟩) ss.length ss.length 3 1 (ts.map iv), vec (some ⟨g2, 0, none⟩) ss.length ss.length 3 1 (tc.map iv)]) (fun m => i + m ≤ ss.length) (fun m => ss.length - m) 0 ⟨rfl, rfl, rfl, trivial⟩ (.refl _) (by omega) ?_
            intro m V3 hm2
            by_cases hlt3 : i + m < ss.length
            · have q1 := sumL_range rt m (i := i)
              have q2 := sumL_range rc m (i := i)
              have q3 := rt (i + m)
              have q4 := rc (i + m)
              have q5 := hall i (m + 1) (by omega)
              rw [sumL, sumL] at q5
              have q6 : 0 ≤ r * (sumL tc i m + nth tc (i + m)) := Int.mul_nonneg hl.1 (by omega)
              have q7 : r * (sumL tc i m + nth tc (i + m)) ≤ 1048576 * (sumL tc i m + nth tc (i + m)) := Int.mul_le_mul_of_nonneg_right hl.2.1 (by omega)
              have q8 := hl.2.2.2.1
              have q9 := hl.2.2.1
              (refine WC.seq ?_; intro K hK)
              (refine WC.seq ?_; intro K hK)
              refine WC.region ?_
              refine WL.want rfl (WL1.give rfl (g_move rfl (.mk (v := .int _ _) rfl rfl)) ?_)
              refine WL.want rfl (WL1.give rfl (g_move rfl (.mk (v := .slice _ _ _) rfl rfl)) ?_)
              refine WL.want rfl (WL1.give rfl (g_len rfl (.mk rfl rfl) rfl) ?_)
              refine WL.want rfl (WL1.give rfl (g_lt rfl (.mk rfl rfl) (.mk rfl rfl) (decide_eq_true (by omega))) ?_)
              refine WL.nil ?_
              (refine hK _ _ ?_; clear hK)
              refine WC.cond_true (.mk rfl rfl) ?_
              refine WC.skip ?_
              (refine hK _ _ ?_; clear hK)
              (refine WC.seq ?_; intro K hK)
              refine WC.block ?_
              (refine WC.seq ?_; intro K hK)
              refine WC.quiet (by kernel_rfl) (by decide +kernel) ?_
              refine WQ.want rfl (WQ1.give rfl (g_move rfl (.mk (v := .int _ _) rfl rfl)) ?_)
              refine WQ.want rfl (WQ1.give rfl (g_move rfl (.mk (v := .slice _ _ _) rfl rfl)) ?_)
              refine WQ.want rfl (WQ1.give rfl (g_move rfl (.mk (v := .int _ _) rfl rfl)) ?_)
              refine WQ.want rfl (WQ1.give rfl (g_indexAddr (sz := 1) rfl (.mk rfl rfl) (.mk rfl rfl) rfl rfl rfl (by omega) (fun _ _ => rfl)) ?_)
              refine WQ.want rfl (WQ1.give rfl (g_load rfl (.mk rfl rfl) rfl (rd_vec (.tail _ (.head _)) (get1 (by omega)))) ?_)
              refine WQ.want rfl (WQ1.give rfl (g_add rfl (.mk rfl rfl) (.mk rfl rfl) (IntWalk.i64_in _ (by omega))) ?_)
              refine WQ.want rfl (WQ1.give rfl (g_move rfl (.mk (v := .int _ _) rfl rfl)) ?_)
              refine WQ.want rfl (WQ1.give rfl (g_move rfl (.mk (v := .slice _ _ _) rfl rfl)) ?_)
              refine WQ.want rfl (WQ1.give rfl (g_move rfl (.mk (v := .int _ _) rfl rfl)) ?_)
              refine WQ.want rfl (WQ1.give rfl (g_indexAddr (sz := 1) rfl (.mk rfl rfl) (.mk rfl rfl) rfl rfl rfl (by omega) (fun _ _ => rfl)) ?_)
              refine WQ.want rfl (WQ1.give rfl (g_load rfl (.mk rfl rfl) rfl (rd_vec (.tail _ (.tail _ (.head _))) (get1 (by omega)))) ?_)
              refine WQ.want rfl (WQ1.give rfl (g_add rfl (.mk rfl rfl) (.mk rfl rfl) (IntWalk.i64_in _ (by omega))) ?_)
              refine WQ.want rfl (WQ1.give rfl (g_assign rfl (.mk (v := .int _ _) rfl rfl)) ?_)
              refine WQ.want rfl (WQ1.give rfl (g_assign rfl (.mk (v := .int _ _) rfl rfl)) ?_)
              refine WQ.nil ?_
              (refine hK _ _ ?_; clear hK)
              (refine WC.seq ?_; intro K hK)
              refine WC.region ?_
              refine WL.want rfl (WL1.give rfl (g_move rfl (.mk (v := .int _ _) rfl rfl)) ?_)
              refine WL.want rfl (WL1.give rfl (g_move rfl (.mk (v := .int _ _) rfl rfl)) ?_)
              refine WL.want rfl (WL1.give rfl (g_move rfl (.mk (v := .int _ _) rfl rfl)) ?_)
              refine WL.want rfl (WL1.give rfl (g_move rfl (.mk (v := .int _ _) rfl rfl)) ?_)
              refine WL.want rfl (WL1.give rfl (g_mul rfl (.mk rfl rfl) (.mk rfl rfl) (IntWalk.i64_in _ (by omega))) ?_)
              refine WL.want rfl (WL1.give rfl (g_add rfl (.mk rfl rfl) (.mk rfl rfl) (IntWalk.i64_in _ (by omega))) ?_)
              refine WL.want rfl (WL1.give rfl (g_gt rfl (.mk rfl rfl) (.mk rfl rfl) (decide_eq_false (by omega))) ?_)
              refine WL.nil ?_
              (refine hK _ _ ?_; clear hK)
              refine WC.cond_false (.mk rfl rfl) ?_
              refine WC.skip ?_
              (refine hK _ _ ?_; clear hK)
              refine WC.region ?_
              refine WL.want rfl (WL1.give rfl (g_move rfl (.mk (v := .int _ _) rfl rfl)) ?_)
              refine WL.want rfl (WL1.give rfl (g_add rfl (.mk rfl rfl) (.mk rfl rfl) (IntWalk.i64_in _ (by omega))) ?_)
              refine WL.want rfl (WL1.give rfl (g_assign rfl (.mk (v := .int _ _) rfl rfl)) ?_)
              refine WL.nil ?_
              exact ⟨m + 1, (by repeat (first | with_reducible exact Out.refl _ _ | refine Out.set rfl ?_ | refine Out.put rfl ?_ | refine Out.sets rfl ?_ | refine Out.hav rfl ?_ | exact Out.refl _ _)), ⟨rfl, rfl, rfl, trivial⟩, .refl _, by omega, by omega⟩
            · (refine WC.seq ?_; intro K hK)
              (refine WC.seq ?_; intro K hK)
              refine WC.region ?_
              refine WL.want rfl (WL1.give rfl (g_move rfl (.mk (v := .int _ _) rfl rfl)) ?_)
              refine WL.want rfl (WL1.give rfl (g_move rfl (.mk (v := .slice _ _ _) rfl rfl)) ?_)
              refine WL.want rfl (WL1.give rfl (g_len rfl (.mk rfl rfl) rfl) ?_)
              refine WL.want rfl (WL1.give rfl (g_lt rfl (.mk rfl rfl) (.mk rfl rfl) (decide_eq_false (by omega))) ?_)
              refine WL.nil ?_
              (refine hK _ _ ?_; clear hK)
              refine WC.cond_false (.mk rfl rfl) ?_
              refine WC.exit ?_
              (clear hK; refine hK _ _ ?_; clear hK)
              refine WC.region ?_
              refine WL.want rfl (WL1.give rfl (g_move rfl (.mk (v := .int _ _) rfl rfl)) ?_)
              refine WL.want rfl (WL1.give rfl (g_add rfl (.mk rfl rfl) (.mk rfl rfl) (IntWalk.i64_in _ (by omega))) ?_)
              refine WL.want rfl (WL1.give rfl (g_assign rfl (.mk (v := .int _ _) rfl rfl)) ?_)
              refine WL.nil ?_
              exact ⟨i + 1, (by repeat (first | with_reducible exact Out.refl _ _ | refine Out.set rfl ?_ | refine Out.put rfl ?_ | refine Out.sets rfl ?_ | refine Out.hav rfl ?_ | exact Out.refl _ _)), ⟨rfl, trivial⟩, .refl _, by omega, by omega⟩
          · (refine WC.seq ?_; intro K hK)
            (refine WC.seq ?_; intro K hK)
            refine WC.region ?_
            refine WL.want rfl (WL1.give rfl (g_move rfl (.mk (v := .int _ _) rfl rfl)) ?_)
            refine WL.want rfl (WL1.give rfl (g_move rfl (.mk (v := .slice _ _ _) rfl rfl)) ?_)
            refine WL.want rfl (WL1.give rfl (g_len rfl (.mk rfl rfl) rfl) ?_)
            refine WL.want rfl (WL1.give rfl (g_lt rfl (.mk rfl rfl) (.mk rfl rfl) (decide_eq_false (by omega))) ?_)
            refine WL.nil ?_
            (refine hK _ _ ?_; clear hK)
            refine WC.cond_false (.mk rfl rfl) ?_
            refine WC.exit ?_
            (clear hK; refine hK _ _ ?_; clear hK)
            (refine WC.seq ?_; intro K hK)
            refine WC.region ?_
            refine WL.want rfl (WL1.give rfl (g_assign rfl (.mk (v := .bool _) rfl rfl)) ?_)
            refine WL.nil ?_
            (refine hK _ _ ?_; clear hK)
            refine WC.ret ?_
            exact fun w' hw' => ⟨rfl, hw'.1⟩
      all_goals first
        | exact ⟨(b38, b41), (by repeat (first | with_reducible exact Out.refl _ _ | refine Out.set rfl ?_ | refine Out.put rfl ?_ | refine Out.sets rfl ?_ | refine Out.hav rfl ?_ | exact Out.refl _ _)), ⟨rfl, rfl, trivial⟩, _, (List.reverse_perm _).symm, .refl _⟩
        | exact ⟨(b38, b41), (by repeat (first | with_reducible exact Out.refl _ _ | refine Out.set rfl ?_ | refine Out.put rfl ?_ | refine Out.sets rfl ?_ | refine Out.hav rfl ?_ | exact Out.refl _ _)), ⟨rfl, rfl, trivial⟩, _, List.perm_append_comm (l₁ := [_, _]) (l₂ := [_]), .refl _⟩
    · refine calls_wc (args := [iv r, iv B, .slice A ss.length c]) [6] [] Try.func5 rfl Try.ntmps5 rfl rfl rfl rfl (H.refl w) ?_
      (refine WC.seq ?_; intro K hK)
      refine WC.region ?_
      refine WL.want rfl (WL1.give rfl (g_assign rfl (.mk (v := .bool _) rfl rfl)) ?_)
      refine WL.nil ?_
      (refine hK _ _ ?_; clear hK)
      (refine WC.seq ?_; intro K hK)
      (refine WC.seq ?_; intro K hK)
      refine WC.region ?_
      refine WL.want rfl (WL1.callP rfl rfl rfl .nil (fun w hw => awake_e) ?_)
      refine WL.want rfl (WL1.give rfl (g_notT rfl (.mk rfl rfl)) ?_)
      refine WL.nil ?_
      (refine hK _ _ ?_; clear hK)
      refine WC.cond_false (.mk rfl rfl) ?_
      refine WC.skip ?_
      (refine hK _ _ ?_; clear hK)
      (refine WC.seq ?_; intro K hK)
      (refine WC.seq ?_; intro K hK)
      refine WC.region ?_
      refine WL.want rfl (WL1.give rfl (g_move rfl (.mk (v := .int _ _) rfl rfl)) ?_)
      refine WL.want rfl (WL1.give rfl (g_move rfl (.mk (v := .int _ _) rfl rfl)) ?_)
      refine WL.want rfl (WL1.callP rfl rfl rfl (.cons (.mk (v := .int _ _) rfl rfl) (.cons (.mk (v := .int _ _) rfl rfl) .nil)) (fun w hw => valid_yes hok) ?_)
      refine WL.want rfl (WL1.give rfl (g_notT rfl (.mk rfl rfl)) ?_)
      refine WL.want rfl (WL1.give rfl (g_move rfl (.mk (v := .bool _) rfl rfl)) ?_)
      refine WL.wantG rfl rfl rfl rfl (WL1.give rfl (g_move rfl (.mk (v := .slice _ _ _) rfl rfl)) ?_)
      refine WL.wantG rfl rfl rfl rfl (WL1.give rfl (g_len rfl (.mk rfl rfl) rfl) ?_)
      refine WL.wantG rfl rfl rfl rfl (WL1.give rfl (g_gt rfl (.mk rfl rfl) (.mk rfl rfl) (decide_eq_true (by omega))) ?_)
      refine WL.want rfl (WL1.give rfl (g_pickF rfl (.mk rfl rfl) (.mk (v := .bool _) rfl rfl)) ?_)
      refine WL.nil ?_
      (refine hK _ _ ?_; clear hK)
      refine WC.cond_true (.mk rfl rfl) ?_
      (refine WC.seq ?_; intro K hK)
      refine WC.region ?_
      refine WL.want rfl (WL1.give rfl (g_assign rfl (.mk (v := .bool _) rfl rfl)) ?_)
      refine WL.nil ?_
      (refine hK _ _ ?_; clear hK)
      refine WC.ret ?_
      exact fun w' hw' => ⟨rfl, hw'.1⟩
  · refine calls_wc (args := [iv r, iv B, .slice A ss.length c]) [6] [] Try.func5 rfl Try.ntmps5 rfl rfl rfl rfl (H.refl w) ?_
    (refine WC.seq ?_; intro K hK)
    refine WC.region ?_
    refine WL.want rfl (WL1.give rfl (g_assign rfl (.mk (v := .bool _) rfl rfl)) ?_)
    refine WL.nil ?_
    (refine hK _ _ ?_; clear hK)
    (refine WC.seq ?_; intro K hK)
    (refine WC.seq ?_; intro K hK)
    refine WC.region ?_
    refine WL.want rfl (WL1.callP rfl rfl rfl .nil (fun w hw => awake_e) ?_)
    refine WL.want rfl (WL1.give rfl (g_notT rfl (.mk rfl rfl)) ?_)
    refine WL.nil ?_
    (refine hK _ _ ?_; clear hK)
    refine WC.cond_false (.mk rfl rfl) ?_
    refine WC.skip ?_
    (refine hK _ _ ?_; clear hK)
    (refine WC.seq ?_; intro K hK)
    (refine WC.seq ?_; intro K hK)
    refine WC.region ?_
    refine WL.want rfl (WL1.give rfl (g_move rfl (.mk (v := .int _ _) rfl rfl)) ?_)
    refine WL.want rfl (WL1.give rfl (g_move rfl (.mk (v := .int _ _) rfl rfl)) ?_)
    refine WL.want rfl (WL1.callP rfl rfl rfl (.cons (.mk (v := .int _ _) rfl rfl) (.cons (.mk (v := .int _ _) rfl rfl) .nil)) (fun w hw => valid_no hok) ?_)
    refine WL.want rfl (WL1.give rfl (g_notF rfl (.mk rfl rfl)) ?_)
    refine WL.want rfl (WL1.give rfl (g_move rfl (.mk (v := .bool _) rfl rfl)) ?_)
    refine WL.skipG rfl rfl rfl rfl rfl rfl ?_
    refine WL.skipG rfl rfl rfl rfl rfl rfl ?_
    refine WL.skipG rfl rfl rfl rfl rfl rfl ?_
    refine WL.want rfl (WL1.give rfl (g_pickT rfl (.mk rfl rfl) (.mk (v := .bool _) rfl rfl)) ?_)
    refine WL.nil ?_
    (refine hK _ _ ?_; clear hK)
    refine WC.cond_true (.mk rfl rfl) ?_
    (refine WC.seq ?_; intro K hK)
    refine WC.region ?_
    refine WL.want rfl (WL1.give rfl (g_assign rfl (.mk (v := .bool _) rfl rfl)) ?_)
    refine WL.nil ?_
    (refine hK _ _ ?_; clear hK)
    refine WC.ret ?_
    all_goals exact fun w' hw' => ⟨rfl, hw'.1⟩

set_option maxRecDepth 100000 in
theorem lifted (os : Os) (started : os.Started) (H : Type) (enc : TypeId × Value → H) :
    ReturnsInHanded {} Try.checked os 5 .any (Rows.throttleBoundSpec.pre6 enc Try.prog Try.f5 Rows.throttleBoundRow.domain false) (Rows.throttleBoundSpec.post enc Try.prog Try.f5 false true false false) := by
  refine returnsInHanded_of_change (C := Try.checked) own started (by kernel_rfl) Try.func5
    (ChangeSpec.witness6 (enc := enc) (C := Try.checked) false ⟨#[], #[.int .i64 0, .int .i64 0, .slice none 0 0], []⟩ 8 (by kernel_rfl) (by kernel_rfl) (by kernel_rfl) (by kernel_rfl)) ?_
  intro W base args ds gs before hval0 hW _ _
  have hval : ∀ (j : Nat) t v, Try.f5.params[j]? = some t → args[j]? = some v → Value.okWide Try.prog W .any base t v := hval0
  have hW' := hW
  obtain ⟨p, q, hA0, hV, rfl, hfz, hnd⟩ := hW
  have hA : DataW.TrodAll enc Try.prog W 0 (fun _ => true) true Try.f5.params.toList args.toList ds p := hA0
  rw [Try.params5] at hA hval
  obtain ⟨v0, vs0, d0, ds0, p0, q0, hargs, rfl, rfl, h0, r0⟩ := trodAll_cons hA
  obtain ⟨v1, vs1, d1, ds1, p1, q1, rfl, rfl, rfl, h1, r1⟩ := trodAll_cons r0
  obtain ⟨v2, vs2, d2, ds2, p2, q2, rfl, rfl, rfl, h2, r2⟩ := trodAll_cons r1
  obtain ⟨rfl, rfl, rfl⟩ := trodAll_nil r2
  obtain rfl : args = #[v0, v1, v2] := by cases args; simp_all
  obtain ⟨r, rfl, rlo, rhi⟩ := open_iv (hval 0 3 v0 rfl rfl) h0
  obtain ⟨B, rfl, Blo, Bhi⟩ := open_iv (hval 1 3 v1 rfl rfl) h1
  obtain ⟨ss, sssl, ssr⟩ := open_steps (hval 2 29 v2 rfl rfl) h2
  refine (walk (w := W) r rlo rhi B Blo Bhi v2 ss sssl ssr).mono fun e W' ⟨he, hb⟩ => ?_
  subst he
  exact ⟨_, rfl, law_post laidOut (by kernel_rfl) rfl rfl Try.underlying4 (fun ds h => by match ds, h with | [_, _, _], _ => rfl) hW' hb⟩

theorem proved : Rows.ThrottleBoundSaid :=
  OpenClaim.holds_of_wide 5 Try.f5 rfl rfl rfl rfl rfl rfl rfl ⟨rfl, rfl, rfl, rfl, rfl⟩ rfl rfl rfl rfl rfl (by kernel_rfl) Try.func5 (by kernel_rfl)
    (of_decide_eq_true (by kernel_rfl)) (by unfold Func.isWrapper; first | (rw [if_pos (by decide +kernel)]; kernel_rfl) | (rw [if_neg (by decide +kernel)]; exact ⟨rfl, rfl⟩))
    (fun os started H enc _ => lifted os started H enc)
end Go.Proofs.Ytcdpffndpaldoaa.LThrottleBound
