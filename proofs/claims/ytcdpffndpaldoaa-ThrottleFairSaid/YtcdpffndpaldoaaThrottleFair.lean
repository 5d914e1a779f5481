/- ThrottleFair answers true, whatever the three numbers: a taker waits as many ticks as the rate requires. No condition. -/
import Derived.Test.YtcdpffndpaldoaaThr6
namespace Go.Proofs.Ytcdpffndpaldoaa.LThrottleFair
open Go.RowKit Go.WideShapes Go.ChangeShapes Go.ChangeAt
attribute [local irreducible] Calls

/-- The state of the taker: t takings, the level, full ticks and ticks that lose tokens. -/
structure Fair (R U n : Int) (N t : Nat) (l : Int) (kf kw : Nat) : Prop where
  ht : t ≤ 10
  l0 : 0 ≤ l
  lU : l ≤ U
  lo : U + kf * R ≤ l + n * t
  hi : l + n * t ≤ U + (kf + kw : Nat) * R
  kN : kf ≤ N
  kW : kw ≤ t ∨ kw = t + 1 ∧ n ≤ l ∧ t < 10
section
variable {R U n : Int} {N t kf kw : Nat} {l : Int}
theorem Fair.take (h : Fair R U n N t l kf kw) (hn : 1 ≤ n) (h1 : n ≤ l) (h2 : t < 10) : Fair R U n N (t + 1) (l - n) kf kw := by
  have e : n * ((t + 1 : Nat) : Int) = n * t + n := by rw [show ((t + 1 : Nat) : Int) = (t : Int) + 1 from rfl, Int.mul_add, Int.mul_one]
  have := h.lo; have := h.hi; have := h.kW; have := h.lU
  exact ⟨by omega, by omega, by omega, by rw [e]; omega, by rw [e]; omega, h.kN, by omega⟩
theorem Fair.lost (h : Fair R U n N t l kf kw) (hR : 1 ≤ R) (hnU : n ≤ U) (h1 : l < n) (h2 : t < 10) (h3 : U ≤ l + R) : Fair R U n N t U kf (kw + 1) := by
  have e : ((kf + (kw + 1) : Nat) : Int) * R = ((kf + kw : Nat) : Int) * R + R := by rw [show ((kf + (kw + 1) : Nat) : Int) = ((kf + kw : Nat) : Int) + 1 from rfl, Int.add_mul, Int.one_mul]
  have := h.lo; have := h.hi; have := h.kW; have := h.lU; have := h.l0
  exact ⟨h.ht, by omega, by omega, by omega, by rw [e]; omega, h.kN, by omega⟩
theorem Fair.full (h : Fair R U n N t l kf kw) (hR : 1 ≤ R) (hn : 1 ≤ n) (hN : 10 * n ≤ U + N * R) (h1 : l < n) (h2 : t < 10) (h3 : l + R < U) : Fair R U n N t (l + R) (kf + 1) kw := by
  have e : ((kf + 1 + kw : Nat) : Int) * R = ((kf + kw : Nat) : Int) * R + R := by rw [show ((kf + 1 + kw : Nat) : Int) = ((kf + kw : Nat) : Int) + 1 from by omega, Int.add_mul, Int.one_mul]
  have e2 : ((kf + 1 : Nat) : Int) * R = (kf : Int) * R + R := by rw [show ((kf + 1 : Nat) : Int) = (kf : Int) + 1 from rfl, Int.add_mul, Int.one_mul]
  have := h.lo; have := h.hi; have := h.kW; have := h.l0
  have h9 : n * t ≤ n * 9 := Int.mul_le_mul_of_nonneg_left (by omega) (by omega)
  refine ⟨h.ht, by omega, by omega, by rw [e2]; omega, by rw [e]; omega, ?_, by omega⟩
  rcases Nat.lt_or_ge kf N with h5 | h5
  · omega
  · have : (N : Int) * R ≤ kf * R := Int.mul_le_mul_of_nonneg_right (by omega) (by omega)
    omega
theorem Fair.end_ (h : Fair R U n N 10 l kf kw) (hR : 1 ≤ R) (hn : 1 ≤ n) (hN : ∀ j : Nat, j < N → U + j * R < 10 * n) : N ≤ kf + kw ∧ ((kf + kw : Nat) : Int) ≤ N + 10 * n := by
  have := h.hi; have := h.kW; have := h.l0; have := h.kN
  refine ⟨?_, by omega⟩
  rcases Nat.lt_or_ge (kf + kw) N with h5 | h5
  · have := hN _ h5
    have e : n * ((10 : Nat) : Int) = 10 * n := Int.mul_comm _ _
    omega
  · exact h5
end
theorem need_ex (R U n : Int) (hR : 1 ≤ R) (hU : 0 ≤ U) (hn : 1 ≤ n) : ∃ N : Nat, 10 * n ≤ U + N * R ∧ ∀ j : Nat, j < N → U + j * R < 10 * n := by
  have hex : ∃ N : Nat, 10 * n ≤ U + N * R := ⟨(10 * n).toNat, by
    have : ((10 * n).toNat : Int) * 1 ≤ ((10 * n).toNat : Int) * R := Int.mul_le_mul_of_nonneg_left hR (by omega)
    omega⟩
  obtain ⟨N, h1, h2⟩ := exists_least hex
  refine ⟨N, h1, fun j hj => ?_⟩
  rcases Int.lt_or_le (U + j * R) (10 * n) with h | h
  · exact h
  · have := h2 j h; omega
set_option maxRecDepth 20000 in
set_option maxHeartbeats 1000000 in
theorem walk (w : World) (x : Int) (x1 : 0 ≤ x) (x2 : x ≤ 255) (y : Int) (y1 : 0 ≤ y) (y2 : y ≤ 255) (z : Int) (z1 : 0 ≤ z) (z2 : z ≤ 255) :
    Calls Try.prog 9 #[.int .u8 x, .int .u8 y, .int .u8 z] w fun en w' => en = .returned (.bool true) ∧ Below w.heap.size w w' := by
  have q1 := Int.emod_nonneg z (by omega : 1 + y ≠ 0)
  have q2 := Int.emod_lt_of_pos z (by omega : 0 < 1 + y)
  generalize hq : z % (1 + y) = q at *
  have HQ : z % (1 + y) = q := hq
  have hok : BkOk (1 + x % 50) (1 + y) (1 + y) := by unfold BkOk; omega
  obtain ⟨N, hN1, hN2⟩ := need_ex (1 + x % 50) (1 + y) (1 + q) (by omega) (by omega) (by omega)
  have hNb : N ≤ 2560 := by
    rcases Nat.eq_zero_or_pos N with h | h
    · omega
    · have h1 := hN2 (N - 1) (by omega)
      have h2 : ((N - 1 : Nat) : Int) * 1 ≤ ((N - 1 : Nat) : Int) * (1 + x % 50) := Int.mul_le_mul_of_nonneg_left (by omega) (by omega)
      omega
  refine calls_wc (args := [.int .u8 x, .int .u8 y, .int .u8 z]) [6] [] Try.func9 rfl Try.ntmps9 rfl rfl rfl rfl (H.refl w) ?_
  (refine WC.seq ?_; intro K hK)
  refine WC.region ?_
  refine WL.want rfl (WL1.give rfl (g_assign rfl (.mk (v := .bool _) rfl rfl)) ?_)
  refine WL.nil ?_
  (refine hK _ _ ?_; clear hK)
  (refine WC.seq ?_; intro K hK)
  (refine WC.seq ?_; intro K hK)
  refine WC.region ?_
  refine WL.want rfl (WL1.callP rfl rfl rfl .nil (fun w hw => awake_e) ?_)
  refine WL.want rfl (WL1.give rfl (g_notT rfl (.mk rfl rfl)) ?_)
  refine WL.nil ?_
  (refine hK _ _ ?_; clear hK)
  refine WC.cond_false (.mk rfl rfl) ?_
  refine WC.skip ?_
  (refine hK _ _ ?_; clear hK)
  (refine WC.seq ?_; intro K hK)
  refine WC.region ?_
  refine WL.want rfl (WL1.give rfl (g_move rfl (.mk (v := .int _ _) rfl rfl)) ?_)
  refine WL.want rfl (WL1.give rfl (g_conv rfl rfl rfl (.mk rfl rfl) (IntWalk.i64_in _ (by omega))) ?_)
  refine WL.want rfl (WL1.give rfl (g_rem rfl (.mk rfl rfl) (.mk rfl rfl) (by omega) (IntWalk.rem_in _ _ (by omega))) ?_)
  refine WL.want rfl (WL1.give rfl (g_add rfl (.mk rfl rfl) (.mk rfl rfl) (IntWalk.i64_in _ (by omega))) ?_)
  refine WL.want rfl (WL1.give rfl (g_move rfl (.mk (v := .int _ _) rfl rfl)) ?_)
  refine WL.want rfl (WL1.give rfl (g_conv rfl rfl rfl (.mk rfl rfl) (IntWalk.i64_in _ (by omega))) ?_)
  refine WL.want rfl (WL1.give rfl (g_add rfl (.mk rfl rfl) (.mk rfl rfl) (IntWalk.i64_in _ (by omega))) ?_)
  refine WL.want rfl (WL1.give rfl (g_assign rfl (.mk (v := .int _ _) rfl rfl)) ?_)
  refine WL.want rfl (WL1.give rfl (g_assign rfl (.mk (v := .int _ _) rfl rfl)) ?_)
  refine WL.nil ?_
  (refine hK _ _ ?_; clear hK)
  (refine WC.seq ?_; intro K hK)
  refine WC.region ?_
  refine WL.want rfl (WL1.give rfl (g_move rfl (.mk (v := .int _ _) rfl rfl)) ?_)
  refine WL.want rfl (WL1.give rfl (g_conv rfl rfl rfl (.mk rfl rfl) (IntWalk.i64_in _ (by omega))) ?_)
  refine WL.want rfl (WL1.give rfl (g_move rfl (.mk (v := .int _ _) rfl rfl)) ?_)
  refine WL.want rfl (WL1.give rfl (g_rem (r := q) rfl (.mk rfl rfl) (.mk rfl rfl) (by omega) ((IntWalk.rem_in _ _ (by omega)).trans HQ)) ?_)
  refine WL.want rfl (WL1.give rfl (g_add rfl (.mk rfl rfl) (.mk rfl rfl) (IntWalk.i64_in _ (by omega))) ?_)
  refine WL.want rfl (WL1.give rfl (g_assign rfl (.mk (v := .int _ _) rfl rfl)) ?_)
  refine WL.nil ?_
  (refine hK _ _ ?_; clear hK)
  (refine WC.seq ?_; intro K hK)
  refine WC.region ?_
  refine WL.want rfl (WL1.give rfl (g_move rfl (.mk (v := .int _ _) rfl rfl)) ?_)
  refine WL.want rfl (WL1.give rfl (g_move rfl (.mk (v := .int _ _) rfl rfl)) ?_)
  (refine WL.want rfl (WL1.callN rfl rfl rfl (.cons (.mk (v := .int _ _) rfl rfl) (.cons (.mk (v := .int _ _) rfl rfl) .nil)) (fun w hw => new_ok hok) ?_); rintro _ _ ⟨b, rfl, rfl⟩)
  refine WL.want rfl (WL1.give rfl (g_move rfl (.mk (v := .tuple _) rfl rfl)) ?_)
  refine WL.want rfl (WL1.give rfl (g_extract rfl (.mk rfl rfl) rfl) ?_)
  refine WL.want rfl (WL1.give rfl (g_extract rfl (.mk rfl rfl) rfl) ?_)
  refine WL.want rfl (WL1.give rfl (g_assign rfl (.mk (v := cellPtr _ _) rfl rfl)) ?_)
  refine WL.want rfl (WL1.give rfl (g_assign rfl (.mk (v := .int _ _) rfl rfl)) ?_)
  refine WL.nil ?_
  (refine hK _ _ ?_; clear hK)
  (refine WC.seq ?_; intro K hK)
  (refine WC.seq ?_; intro K hK)
  refine WC.region ?_
  refine WL.want rfl (WL1.give rfl (g_move rfl (.mk (v := .int _ _) rfl rfl)) ?_)
  refine WL.want rfl (WL1.give rfl (g_ne rfl (.mk rfl rfl) (.mk rfl rfl) (decide_eq_false (by omega))) ?_)
  refine WL.nil ?_
  (refine hK _ _ ?_; clear hK)
  refine WC.cond_false (.mk rfl rfl) ?_
  refine WC.skip ?_
  (refine hK _ _ ?_; clear hK)
  (refine WC.seq ?_; intro K hK)
  refine WC.region ?_
  refine WL.want rfl (WL1.give rfl (g_assign rfl (.mk (v := .int _ _) rfl rfl)) ?_)
  refine WL.want rfl (WL1.give rfl (g_assign rfl (.mk (v := .int _ _) rfl rfl)) ?_)
  refine WL.nil ?_
  (refine hK _ _ ?_; clear hK)
  (refine WC.seq ?_; intro K hK)
  refine WC.block ?_
  refine WC.loop4 (4503462188429312) (fun (t : Nat) (l : Int) (kf kw : Nat) => [(12, iv (kf + kw : Nat)), (13, iv t)]) (fun _ l _ _ => [bkt b (1 + x % 50) (1 + y) l]) (fun t l kf kw => Fair (1 + x % 50) (1 + y) (1 + q) N t l kf kw) (fun t l kf kw => (10 - t) + (3000 - (kf + kw))) 0 (1 + y) 0 0 ⟨rfl, rfl, trivial⟩ (.refl _) ⟨by omega, by omega, by omega, by simp, by simp, by omega, .inl (by omega)⟩ ?_
  rintro t l kf kw U hF
  have hl : BkOk (1 + x % 50) (1 + y) l := ⟨by omega, by omega, by omega, by omega, hF.l0, hF.lU⟩
  have hkk : kf + kw ≤ 2600 := by have := hF.kN; have := hF.kW; have := hF.ht; omega
  by_cases h10 : t < 10
  · by_cases hn : 1 + q ≤ l
    · have hF2 := hF.take (by omega) hn h10
      (refine WC.seq ?_; intro K hK)
      (refine WC.seq ?_; intro K hK)
      refine WC.region ?_
      refine WL.want rfl (WL1.give rfl (g_move rfl (.mk (v := .int _ _) rfl rfl)) ?_)
      refine WL.want rfl (WL1.give rfl (g_lt rfl (.mk rfl rfl) (.mk rfl rfl) (decide_eq_true (by omega))) ?_)
      refine WL.want rfl (WL1.give rfl (g_move rfl (.mk (v := .bool _) rfl rfl)) ?_)
      refine WL.wantG rfl rfl rfl rfl (WL1.give rfl (g_move rfl (.mk (v := .int _ _) rfl rfl)) ?_)
      refine WL.wantG rfl rfl rfl rfl (WL1.give rfl (g_lt rfl (.mk rfl rfl) (.mk rfl rfl) (decide_eq_true (by omega))) ?_)
      refine WL.want rfl (WL1.give rfl (g_pickT rfl (.mk rfl rfl) (.mk (v := .bool _) rfl rfl)) ?_)
      refine WL.nil ?_
      (refine hK _ _ ?_; clear hK)
      refine WC.cond_true (.mk rfl rfl) ?_
      refine WC.skip ?_
      (refine hK _ _ ?_; clear hK)
      refine WC.block ?_
      (refine WC.seq ?_; intro K hK)
      refine WC.region ?_
      refine WL.want rfl (WL1.give rfl (g_move rfl (.mk (v := cellPtr _ _) rfl rfl)) ?_)
      refine WL.want rfl (WL1.give rfl (g_move rfl (.mk (v := .int _ _) rfl rfl)) ?_)
      (refine WL.want rfl (WL1.callF rfl rfl rfl (.cons (.mk (v := cellPtr _ _) rfl rfl) (.cons (.mk (v := .int _ _) rfl rfl) .nil)) (fun w hw => take_yes _ hl (by omega) hn hw) ?_); rintro _ _ ⟨rfl, rfl⟩)
      refine WL.nil ?_
      (refine hK _ _ ?_; clear hK)
      refine WC.cond_true (.mk rfl rfl) ?_
      refine WC.region ?_
      refine WL.want rfl (WL1.give rfl (g_move rfl (.mk (v := .int _ _) rfl rfl)) ?_)
      refine WL.want rfl (WL1.give rfl (g_add rfl (.mk rfl rfl) (.mk rfl rfl) (IntWalk.i64_in _ (by omega))) ?_)
      refine WL.want rfl (WL1.give rfl (g_assign rfl (.mk (v := .int _ _) rfl rfl)) ?_)
      refine WL.nil ?_
      exact ⟨t + 1, l - (1 + q), kf, kw, (by repeat (first | with_reducible exact Out.refl _ _ | refine Out.set rfl ?_ | refine Out.put rfl ?_ | refine Out.sets rfl ?_ | refine Out.hav rfl ?_ | exact Out.refl _ _)), ⟨rfl, rfl, trivial⟩, .refl _, hF2, by omega⟩
    · have hT := tickV_min (n := 1) hl (by omega)
      rw [Int.one_mul] at hT
      by_cases hU : 1 + y ≤ l + (1 + x % 50)
      · have hF2 := hF.lost (by omega) (by omega) (by omega) h10 hU
        rw [if_pos hU] at hT
        (refine WC.seq ?_; intro K hK)
        (refine WC.seq ?_; intro K hK)
        refine WC.region ?_
        refine WL.want rfl (WL1.give rfl (g_move rfl (.mk (v := .int _ _) rfl rfl)) ?_)
        refine WL.want rfl (WL1.give rfl (g_lt rfl (.mk rfl rfl) (.mk rfl rfl) (decide_eq_true (by omega))) ?_)
        refine WL.want rfl (WL1.give rfl (g_move rfl (.mk (v := .bool _) rfl rfl)) ?_)
        refine WL.wantG rfl rfl rfl rfl (WL1.give rfl (g_move rfl (.mk (v := .int _ _) rfl rfl)) ?_)
        refine WL.wantG rfl rfl rfl rfl (WL1.give rfl (g_lt rfl (.mk rfl rfl) (.mk rfl rfl) (decide_eq_true (by omega))) ?_)
        refine WL.want rfl (WL1.give rfl (g_pickT rfl (.mk rfl rfl) (.mk (v := .bool _) rfl rfl)) ?_)
        refine WL.nil ?_
        (refine hK _ _ ?_; clear hK)
        refine WC.cond_true (.mk rfl rfl) ?_
        refine WC.skip ?_
        (refine hK _ _ ?_; clear hK)
        refine WC.block ?_
        (refine WC.seq ?_; intro K hK)
        refine WC.region ?_
        refine WL.want rfl (WL1.give rfl (g_move rfl (.mk (v := cellPtr _ _) rfl rfl)) ?_)
        refine WL.want rfl (WL1.give rfl (g_move rfl (.mk (v := .int _ _) rfl rfl)) ?_)
        (refine WL.want rfl (WL1.callF rfl rfl rfl (.cons (.mk (v := cellPtr _ _) rfl rfl) (.cons (.mk (v := .int _ _) rfl rfl) .nil)) (fun w hw => take_no _ hl (by omega) (by omega) hw) ?_); rintro _ _ ⟨rfl, rfl⟩)
        refine WL.nil ?_
        (refine hK _ _ ?_; clear hK)
        refine WC.cond_false (.mk rfl rfl) ?_
        (refine WC.seq ?_; intro K hK)
        refine WC.region ?_
        refine WL.want rfl (WL1.give rfl (g_move rfl (.mk (v := cellPtr _ _) rfl rfl)) ?_)
        (refine WL.want rfl (WL1.callF rfl rfl rfl (.cons (.mk (v := cellPtr _ _) rfl rfl) (.cons (.mk (v := .int _ _) rfl rfl) .nil)) (fun w hw => tick_e 1 hl hw) ?_); rintro _ _ ⟨rfl, rfl⟩)
        refine WL.nil ?_
        (refine hK _ _ ?_; clear hK)
        refine WC.region ?_
        refine WL.want rfl (WL1.give rfl (g_move rfl (.mk (v := .int _ _) rfl rfl)) ?_)
        refine WL.want rfl (WL1.give rfl (g_add rfl (.mk rfl rfl) (.mk rfl rfl) (IntWalk.i64_in _ (by omega))) ?_)
        refine WL.want rfl (WL1.give rfl (g_assign rfl (.mk (v := .int _ _) rfl rfl)) ?_)
        refine WL.nil ?_
        rw [hT]
        exact ⟨t, 1 + y, kf, kw + 1, (by repeat (first | with_reducible exact Out.refl _ _ | refine Out.set rfl ?_ | refine Out.put rfl ?_ | refine Out.sets rfl ?_ | refine Out.hav rfl ?_ | exact Out.refl _ _)), ⟨rfl, rfl, trivial⟩, .refl _, hF2, by omega⟩
      · have hF2 := hF.full (by omega) (by omega) hN1 (by omega) h10 (by omega)
        rw [if_neg hU] at hT
        (refine WC.seq ?_; intro K hK)
        (refine WC.seq ?_; intro K hK)
        refine WC.region ?_
        refine WL.want rfl (WL1.give rfl (g_move rfl (.mk (v := .int _ _) rfl rfl)) ?_)
        refine WL.want rfl (WL1.give rfl (g_lt rfl (.mk rfl rfl) (.mk rfl rfl) (decide_eq_true (by omega))) ?_)
        refine WL.want rfl (WL1.give rfl (g_move rfl (.mk (v := .bool _) rfl rfl)) ?_)
        refine WL.wantG rfl rfl rfl rfl (WL1.give rfl (g_move rfl (.mk (v := .int _ _) rfl rfl)) ?_)
        refine WL.wantG rfl rfl rfl rfl (WL1.give rfl (g_lt rfl (.mk rfl rfl) (.mk rfl rfl) (decide_eq_true (by omega))) ?_)
        refine WL.want rfl (WL1.give rfl (g_pickT rfl (.mk rfl rfl) (.mk (v := .bool _) rfl rfl)) ?_)
        refine WL.nil ?_
        (refine hK _ _ ?_; clear hK)
        refine WC.cond_true (.mk rfl rfl) ?_
        refine WC.skip ?_
        (refine hK _ _ ?_; clear hK)
        refine WC.block ?_
        (refine WC.seq ?_; intro K hK)
        refine WC.region ?_
        refine WL.want rfl (WL1.give rfl (g_move rfl (.mk (v := cellPtr _ _) rfl rfl)) ?_)
        refine WL.want rfl (WL1.give rfl (g_move rfl (.mk (v := .int _ _) rfl rfl)) ?_)
        (refine WL.want rfl (WL1.callF rfl rfl rfl (.cons (.mk (v := cellPtr _ _) rfl rfl) (.cons (.mk (v := .int _ _) rfl rfl) .nil)) (fun w hw => take_no _ hl (by omega) (by omega) hw) ?_); rintro _ _ ⟨rfl, rfl⟩)
        refine WL.nil ?_
        (refine hK _ _ ?_; clear hK)
        refine WC.cond_false (.mk rfl rfl) ?_
        (refine WC.seq ?_; intro K hK)
        refine WC.region ?_
        refine WL.want rfl (WL1.give rfl (g_move rfl (.mk (v := cellPtr _ _) rfl rfl)) ?_)
        (refine WL.want rfl (WL1.callF rfl rfl rfl (.cons (.mk (v := cellPtr _ _) rfl rfl) (.cons (.mk (v := .int _ _) rfl rfl) .nil)) (fun w hw => tick_e 1 hl hw) ?_); rintro _ _ ⟨rfl, rfl⟩)
        refine WL.nil ?_
        (refine hK _ _ ?_; clear hK)
        refine WC.region ?_
        refine WL.want rfl (WL1.give rfl (g_move rfl (.mk (v := .int _ _) rfl rfl)) ?_)
        refine WL.want rfl (WL1.give rfl (g_add rfl (.mk rfl rfl) (.mk rfl rfl) (IntWalk.i64_in _ (by omega))) ?_)
        refine WL.want rfl (WL1.give rfl (g_assign rfl (.mk (v := .int _ _) rfl rfl)) ?_)
        refine WL.nil ?_
        rw [hT]
        exact ⟨t, _, kf + 1, kw, (by repeat (first | with_reducible exact Out.refl _ _ | refine Out.set rfl ?_ | refine Out.put rfl ?_ | refine Out.sets rfl ?_ | refine Out.hav rfl ?_ | exact Out.refl _ _)), ⟨by show Value.int .i64 _ = Value.int .i64 _; congr 1; omega, rfl, trivial⟩, .refl _, hF2, by omega⟩
  · obtain rfl : t = 10 := by have := hF.ht; omega
    obtain ⟨e1, e2⟩ := hF.end_ (by omega) (by omega) hN2
    (refine WC.seq ?_; intro K hK)
    (refine WC.seq ?_; intro K hK)
    refine WC.region ?_
    refine WL.want rfl (WL1.give rfl (g_move rfl (.mk (v := .int _ _) rfl rfl)) ?_)
    refine WL.want rfl (WL1.give rfl (g_lt rfl (.mk rfl rfl) (.mk rfl rfl) (decide_eq_false (by omega))) ?_)
    refine WL.want rfl (WL1.give rfl (g_move rfl (.mk (v := .bool _) rfl rfl)) ?_)
    refine WL.skipG rfl rfl rfl rfl rfl rfl ?_
    refine WL.skipG rfl rfl rfl rfl rfl rfl ?_
    refine WL.want rfl (WL1.give rfl (g_pickF rfl (.mk rfl rfl) (.mk (v := .bool _) rfl rfl)) ?_)
    refine WL.nil ?_
    (refine hK _ _ ?_; clear hK)
    refine WC.cond_false (.mk rfl rfl) ?_
    refine WC.exit ?_
    (clear hK; refine hK _ _ ?_; clear hK)
    (refine WC.seq ?_; intro K hK)
    refine WC.region ?_
    refine WL.want rfl (WL1.give rfl (g_assign rfl (.mk (v := .int _ _) rfl rfl)) ?_)
    refine WL.nil ?_
    (refine hK _ _ ?_; clear hK)
    (refine WC.seq ?_; intro K hK)
    refine WC.block ?_
    refine WC.loop (4607182418800033792) (fun j : Nat => [(14, iv j)]) (fun _ => []) (fun j => j ≤ N) (fun j => N - j) 0 ⟨rfl, trivial⟩ (List.nil_sublist _) (by omega) ?_
    intro j V hj
    have hjr : 0 ≤ (j : Int) * (1 + x % 50) := Int.mul_nonneg (by omega) (by omega)
    have hjr2 : (j : Int) * (1 + x % 50) ≤ 2560 * (1 + x % 50) := Int.mul_le_mul_of_nonneg_right (by omega) (by omega)
    by_cases hjN : j < N
    · have h1 := hN2 j hjN
      (refine WC.seq ?_; intro K hK)
      (refine WC.seq ?_; intro K hK)
      refine WC.region ?_
      refine WL.want rfl (WL1.give rfl (g_move rfl (.mk (v := .int _ _) rfl rfl)) ?_)
      refine WL.want rfl (WL1.give rfl (g_move rfl (.mk (v := .int _ _) rfl rfl)) ?_)
      refine WL.want rfl (WL1.give rfl (g_move rfl (.mk (v := .int _ _) rfl rfl)) ?_)
      refine WL.want rfl (WL1.give rfl (g_mul rfl (.mk rfl rfl) (.mk rfl rfl) (IntWalk.i64_in _ (by omega))) ?_)
      refine WL.want rfl (WL1.give rfl (g_add rfl (.mk rfl rfl) (.mk rfl rfl) (IntWalk.i64_in _ (by omega))) ?_)
      refine WL.want rfl (WL1.give rfl (g_move rfl (.mk (v := .int _ _) rfl rfl)) ?_)
      refine WL.want rfl (WL1.give rfl (g_mul rfl (.mk rfl rfl) (.mk rfl rfl) (IntWalk.i64_in _ (by omega))) ?_)
      refine WL.want rfl (WL1.give rfl (g_lt rfl (.mk rfl rfl) (.mk rfl rfl) (decide_eq_true (by omega))) ?_)
      refine WL.nil ?_
      (refine hK _ _ ?_; clear hK)
      refine WC.cond_true (.mk rfl rfl) ?_
      refine WC.skip ?_
      (refine hK _ _ ?_; clear hK)
      refine WC.block ?_
      refine WC.region ?_
      refine WL.want rfl (WL1.give rfl (g_move rfl (.mk (v := .int _ _) rfl rfl)) ?_)
      refine WL.want rfl (WL1.give rfl (g_add rfl (.mk rfl rfl) (.mk rfl rfl) (IntWalk.i64_in _ (by omega))) ?_)
      refine WL.want rfl (WL1.give rfl (g_assign rfl (.mk (v := .int _ _) rfl rfl)) ?_)
      refine WL.nil ?_
      exact ⟨j + 1, (by repeat (first | with_reducible exact Out.refl _ _ | refine Out.set rfl ?_ | refine Out.put rfl ?_ | refine Out.sets rfl ?_ | refine Out.hav rfl ?_ | exact Out.refl _ _)), ⟨rfl, trivial⟩, .refl _, by omega, by omega⟩
    · obtain rfl : j = N := by omega
      (refine WC.seq ?_; intro K hK)
      (refine WC.seq ?_; intro K hK)
      refine WC.region ?_
      refine WL.want rfl (WL1.give rfl (g_move rfl (.mk (v := .int _ _) rfl rfl)) ?_)
      refine WL.want rfl (WL1.give rfl (g_move rfl (.mk (v := .int _ _) rfl rfl)) ?_)
      refine WL.want rfl (WL1.give rfl (g_move rfl (.mk (v := .int _ _) rfl rfl)) ?_)
      refine WL.want rfl (WL1.give rfl (g_mul rfl (.mk rfl rfl) (.mk rfl rfl) (IntWalk.i64_in _ (by omega))) ?_)
      refine WL.want rfl (WL1.give rfl (g_add rfl (.mk rfl rfl) (.mk rfl rfl) (IntWalk.i64_in _ (by omega))) ?_)
      refine WL.want rfl (WL1.give rfl (g_move rfl (.mk (v := .int _ _) rfl rfl)) ?_)
      refine WL.want rfl (WL1.give rfl (g_mul rfl (.mk rfl rfl) (.mk rfl rfl) (IntWalk.i64_in _ (by omega))) ?_)
      refine WL.want rfl (WL1.give rfl (g_lt rfl (.mk rfl rfl) (.mk rfl rfl) (decide_eq_false (by omega))) ?_)
      refine WL.nil ?_
      (refine hK _ _ ?_; clear hK)
      refine WC.cond_false (.mk rfl rfl) ?_
      refine WC.exit ?_
      (clear hK; refine hK _ _ ?_; clear hK)
      (refine WC.seq ?_; intro K hK)
      refine WC.region ?_
      refine WL.want rfl (WL1.give rfl (g_move rfl (.mk (v := .int _ _) rfl rfl)) ?_)
      refine WL.want rfl (WL1.give rfl (g_eq rfl (.mk rfl rfl) (.mk rfl rfl) (decide_eq_true (by omega))) ?_)
      refine WL.want rfl (WL1.give rfl (g_move rfl (.mk (v := .bool _) rfl rfl)) ?_)
      refine WL.wantG rfl rfl rfl rfl (WL1.give rfl (g_move rfl (.mk (v := .int _ _) rfl rfl)) ?_)
      refine WL.wantG rfl rfl rfl rfl (WL1.give rfl (g_move rfl (.mk (v := .int _ _) rfl rfl)) ?_)
      refine WL.wantG rfl rfl rfl rfl (WL1.give rfl (g_ge rfl (.mk rfl rfl) (.mk rfl rfl) (decide_eq_true (by omega))) ?_)
      refine WL.want rfl (WL1.give rfl (g_pickT rfl (.mk rfl rfl) (.mk (v := .bool _) rfl rfl)) ?_)
      refine WL.want rfl (WL1.give rfl (g_move rfl (.mk (v := .bool _) rfl rfl)) ?_)
      refine WL.wantG rfl rfl rfl rfl (WL1.give rfl (g_move rfl (.mk (v := .int _ _) rfl rfl)) ?_)
      refine WL.wantG rfl rfl rfl rfl (WL1.give rfl (g_move rfl (.mk (v := .int _ _) rfl rfl)) ?_)
      refine WL.wantG rfl rfl rfl rfl (WL1.give rfl (g_move rfl (.mk (v := .int _ _) rfl rfl)) ?_)
      refine WL.wantG rfl rfl rfl rfl (WL1.give rfl (g_mul rfl (.mk rfl rfl) (.mk rfl rfl) (IntWalk.i64_in _ (by omega))) ?_)
      refine WL.wantG rfl rfl rfl rfl (WL1.give rfl (g_add rfl (.mk rfl rfl) (.mk rfl rfl) (IntWalk.i64_in _ (by omega))) ?_)
      refine WL.wantG rfl rfl rfl rfl (WL1.give rfl (g_le rfl (.mk rfl rfl) (.mk rfl rfl) (decide_eq_true (by omega))) ?_)
      refine WL.want rfl (WL1.give rfl (g_pickT rfl (.mk rfl rfl) (.mk (v := .bool _) rfl rfl)) ?_)
      refine WL.want rfl (WL1.give rfl (g_assign rfl (.mk (v := .bool _) rfl rfl)) ?_)
      refine WL.nil ?_
      (refine hK _ _ ?_; clear hK)
      refine WC.ret ?_
      exact fun w' hw' => ⟨rfl, hw'.1⟩

set_option maxRecDepth 100000 in
theorem lifted (os : Os) (started : os.Started) (H : Type) (enc : TypeId × Value → H) :
    ReturnsInHanded {} Try.checked os 9 .any (Rows.throttleFairSpec.pre6 enc Try.prog Try.f9 Rows.throttleFairRow.domain false) (Rows.throttleFairSpec.post enc Try.prog Try.f9 false true false false) := by
  refine returnsInHanded_of_change (C := Try.checked) own started (by kernel_rfl) Try.func9
    (ChangeSpec.witness6 (enc := enc) (C := Try.checked) false ⟨#[], #[.int .u8 0, .int .u8 0, .int .u8 0], []⟩ 8 (by kernel_rfl) (by kernel_rfl) (by kernel_rfl) (by kernel_rfl)) ?_
  intro W base args ds gs before hval0 hW _ _
  have hval : ∀ (j : Nat) t v, Try.f9.params[j]? = some t → args[j]? = some v → Value.okWide Try.prog W .any base t v := hval0
  have hW' := hW
  obtain ⟨p, q, hA0, hV, rfl, hfz, hnd⟩ := hW
  have hA : DataW.TrodAll enc Try.prog W 0 (fun _ => true) true Try.f9.params.toList args.toList ds p := hA0
  rw [Try.params9] at hA hval
  obtain ⟨v0, vs0, d0, ds0, p0, q0, hargs, rfl, rfl, h0, r0⟩ := trodAll_cons hA
  obtain ⟨v1, vs1, d1, ds1, p1, q1, rfl, rfl, rfl, h1, r1⟩ := trodAll_cons r0
  obtain ⟨v2, vs2, d2, ds2, p2, q2, rfl, rfl, rfl, h2, r2⟩ := trodAll_cons r1
  obtain ⟨rfl, rfl, rfl⟩ := trodAll_nil r2
  obtain rfl : args = #[v0, v1, v2] := by cases args; simp_all
  obtain ⟨x, rfl, xlo, xhi⟩ := open_u8i (hval 0 5 v0 rfl rfl) h0
  obtain ⟨y, rfl, ylo, yhi⟩ := open_u8i (hval 1 5 v1 rfl rfl) h1
  obtain ⟨z, rfl, zlo, zhi⟩ := open_u8i (hval 2 5 v2 rfl rfl) h2
  refine (walk (w := W) x xlo xhi y ylo yhi z zlo zhi).mono fun e W' ⟨he, hb⟩ => ?_
  subst he
  exact ⟨_, rfl, law_post laidOut (by kernel_rfl) rfl rfl Try.underlying4 (fun ds h => by match ds, h with | [_, _, _], _ => rfl) hW' hb⟩

theorem proved : Rows.ThrottleFairSaid :=
  OpenClaim.holds_of_wide 9 Try.f9 rfl rfl rfl rfl rfl rfl rfl ⟨rfl, rfl, rfl, rfl, rfl⟩ rfl rfl rfl rfl rfl (by kernel_rfl) Try.func9 (by kernel_rfl)
    (of_decide_eq_true (by kernel_rfl)) (by unfold Func.isWrapper; first | (rw [if_pos (by decide +kernel)]; kernel_rfl) | (rw [if_neg (by decide +kernel)]; exact ⟨rfl, rfl⟩))
    (fun os started H enc _ => lifted os started H enc)
end Go.Proofs.Ytcdpffndpaldoaa.LThrottleFair
