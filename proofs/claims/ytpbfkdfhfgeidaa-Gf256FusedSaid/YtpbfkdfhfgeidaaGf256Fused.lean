/- Gf256Fused answers true, whatever the two lists and the byte: Fused returns dst + c*src, or ErrArg, and leaves its arguments. No condition. -/
import Derived.Test.YtpbfkdfhfgeidaaLawGf
namespace Go.Proofs.Ytpbfkdfhfgeidaa.LGf256Fused
open Go.RowKit Go.WideShapes Go.ChangeShapes Go.ChangeAt

theorem oneG (l : List G) : ∀ u ∈ bvs l, u.oneCell' = true := one_of_int .u8 (fun x : G => (x.val : Int)) l
set_option maxRecDepth 20000 in
set_option maxHeartbeats 4000000 in
theorem walk_long (w : World) (v1 v2 : Value) (dst : List G) (h1 : Sl w 1 v1 dst.length (bvs dst)) (src : List G) (h2 : Sl w 1 v2 src.length (bvs src)) (c : G) (hl : 1000 < dst.length ∨ 1000 < src.length) :
    Calls Try.prog 4 #[v1, v2, bv c] w fun e w' => e = .returned (.bool true) ∧ Below w.heap.size w w' := by
  obtain ⟨A1, c1, rfl, hc1, hm1, h1⟩ := h1.open_
  obtain ⟨A2, c2, rfl, hc2, hm2, h2⟩ := h2.open_
  clear h1 h2
  by_cases hd : 1000 < dst.length
  · go_enter Try.func4, Try.ntmps4
    go_wp2_with (first | (go_at_call 11; refine (awake_any _).mono ?_; rintro e w1 ⟨rfl, hb1⟩))
    go_ret
    exact ⟨rfl, hb1⟩
  · have hs : 1000 < src.length := by omega
    clear hl
    go_enter Try.func4, Try.ntmps4
    go_wp2_with (first | (go_at_call 11; refine (awake_any _).mono ?_; rintro e w1 ⟨rfl, hb1⟩))
    go_ret
    exact ⟨rfl, hb1⟩
set_option maxRecDepth 20000 in
set_option maxHeartbeats 4000000 in
theorem walk (w : World) (v1 : Value) (dst : List G) (h1 : Sl w 1 v1 dst.length (bvs dst)) (v2 : Value) (src : List G) (h2 : Sl w 1 v2 src.length (bvs src)) (c : G) :
    Calls Try.prog 4 #[v1, v2, bv c] w fun e w' => e = .returned (.bool true) ∧ Below w.heap.size w w' := by
  by_cases hlong : 1000 < dst.length ∨ 1000 < src.length
  · exact walk_long w v1 v2 dst h1 src h2 c hlong
  · have hd : dst.length ≤ 1000 := by omega
    have hs : src.length ≤ 1000 := by omega
    clear hlong
    obtain ⟨A1, c1, rfl, hc1, hm1, h1⟩ := h1.open_
    obtain ⟨A2, c2, rfl, hc2, hm2, h2⟩ := h2.open_
    have HD := Lib.hid hd
    have HS := Lib.hid hs
    have d1 : decide ((1000 : Int) < (dst.length : Int)) = false := by simp; omega
    have d2 : decide ((1000 : Int) < (src.length : Int)) = false := by simp; omega
    have eq1 := sameG_self dst
    have eq2 := sameG_self src
    have eq3 := sameG_self (gfused dst src c)
    by_cases hlen : dst.length = src.length
    · have en : ((dst.length : Int) != (src.length : Int)) = false := by rw [hlen]; simp
      have HL := Lib.hid hlen
      clear hlen
      go_enter Try.func4, Try.ntmps4
      go_wp2_with (first | (go_at_call 11; refine (awake_any _).mono ?_; rintro e w1 ⟨rfl, hb1⟩) | (at_builtin; refine wpList_append elB rfl (.tmp 21) (.tmp 22) rfl w.heap.size _ 0 [] rfl (World.ownsRow_lit _ #[] 0 hb1.size (by unfold maxLen; omega) rfl) _ dst.length (bvs dst) rfl ((h1.below hb1).alloc _) (oneG _) (by unfold maxLen; omega) (by omega) (by have := hb1.size; simp; omega) ?_; intro v3 w2 hown3 _ _ hb2) | (at_builtin; refine wpList_append elB rfl (.tmp 24) (.tmp 25) rfl w2.heap.size _ 0 [] rfl (World.ownsRow_lit _ #[] 0 (Nat.le_refl _) (by unfold maxLen; omega) rfl) _ src.length (bvs src) rfl ((h2.below (below_step hb1 hb2)).alloc _) (oneG _) (by unfold maxLen; omega) (by omega) (by simp) ?_; intro v4 w3 hown4 _ _ hb3))
      have hbw2 := (below_step hb1 hb2)
      have hb23 : Below w2.heap.size w2 w3 := (below_alloc _ _).trans hb3
      have hbw3 : Below w.heap.size w w3 := hbw2.trans (hb23.mono hbw2.size)
      rw [Nat.zero_add, List.nil_append] at hown3 hown4
      have s3 := (Sl.of_own hown3).below hb23
      have s4 := Sl.of_own hown4
      refine (fused_any _ _ dst src c _ HL.out (by omega) s3 s4).mono ?_
      rintro e w4 ⟨v5, rfl, hown5, hb4⟩
      have hbw4 : Below w.heap.size w w4 := hbw3.trans (hb4.mono hbw3.size)
      have t1 := h1.below hbw4
      have t2 := h2.below hbw4
      have t3 := s3.below hb4
      have t4 := s4.below hb4
      have t5 := Sl.of_own hown5
      clear hown3 hown4 hown5 s3 s4 h1 h2 hb1 hb2 hb3 hb23 hbw2 hbw3
      go_wp2_with (fail)
      refine (same_any _ _ dst dst _ t3 t1).mono ?_
      rintro e w' ⟨rfl, rfl⟩
      go_wp2_with (fail)
      refine (same_any _ _ src src _ t4 t2).mono ?_
      rintro e w' ⟨rfl, rfl⟩
      go_wp2_with (fail)
      refine (rfused_any _ _ dst src c _ HL.out (by omega) t1 t2).mono ?_
      rintro e w5 ⟨v6, rfl, hown6, hb5⟩
      have t6 := Sl.of_own hown6
      have t7 := t5.below hb5
      clear hown6
      go_wp2_with (fail)
      refine (same_any _ _ (gfused dst src c) (gfused dst src c) _ (by rw [gfused_length _ _ _ HL.out]; exact t7) (by rw [gfused_length _ _ _ HL.out]; exact t6)).mono ?_
      rintro e w' ⟨rfl, rfl⟩
      go_wp2_with (fail)
      go_ret
      exact ⟨rfl, hbw4.trans (hb5.mono hbw4.size)⟩
    · have en : ((dst.length : Int) != (src.length : Int)) = true := by rw [bne_iff_ne]; omega
      have HL := Lib.hid hlen
      clear hlen
      go_enter Try.func4, Try.ntmps4
      go_wp2_with (first | (go_at_call 11; refine (awake_any _).mono ?_; rintro e w1 ⟨rfl, hb1⟩) | (at_builtin; refine wpList_append elB rfl (.tmp 21) (.tmp 22) rfl w.heap.size _ 0 [] rfl (World.ownsRow_lit _ #[] 0 hb1.size (by unfold maxLen; omega) rfl) _ dst.length (bvs dst) rfl ((h1.below hb1).alloc _) (oneG _) (by unfold maxLen; omega) (by omega) (by have := hb1.size; simp; omega) ?_; intro v3 w2 hown3 _ _ hb2) | (at_builtin; refine wpList_append elB rfl (.tmp 24) (.tmp 25) rfl w2.heap.size _ 0 [] rfl (World.ownsRow_lit _ #[] 0 (Nat.le_refl _) (by unfold maxLen; omega) rfl) _ src.length (bvs src) rfl ((h2.below (below_step hb1 hb2)).alloc _) (oneG _) (by unfold maxLen; omega) (by omega) (by simp) ?_; intro v4 w3 hown4 _ _ hb3))
      have hbw2 := (below_step hb1 hb2)
      have hb23 : Below w2.heap.size w2 w3 := (below_alloc _ _).trans hb3
      have hbw3 : Below w.heap.size w w3 := hbw2.trans (hb23.mono hbw2.size)
      rw [Nat.zero_add, List.nil_append] at hown3 hown4
      have t1 := h1.below hbw3
      have t2 := h2.below hbw3
      have t3 := (Sl.of_own hown3).below hb23
      have t4 := Sl.of_own hown4
      clear hown3 hown4 h1 h2 hb1 hb2 hb3 hb23 hbw2
      refine (fused_bad _ _ _ _ _ _ c _ HL.out t3 t4).mono ?_
      rintro e w' ⟨rfl, rfl⟩
      go_wp2_with (fail)
      refine (same_any _ _ dst dst _ t3 t1).mono ?_
      rintro e w' ⟨rfl, rfl⟩
      go_wp2_with (fail)
      refine (same_any _ _ src src _ t4 t2).mono ?_
      rintro e w' ⟨rfl, rfl⟩
      go_wp2_with (fail)
      go_ret
      exact ⟨rfl, hbw3⟩

set_option maxRecDepth 100000 in
theorem lifted (os : Os) (started : os.Started) (H : Type) (enc : TypeId × Value → H) :
    ReturnsInHanded {} Try.checked os 4 .any (Rows.gf256FusedSpec.pre6 enc Try.prog Try.f4 Rows.gf256FusedRow.domain false) (Rows.gf256FusedSpec.post enc Try.prog Try.f4 false true false false) := by
  refine returnsInHanded_of_change (C := Try.checked) own started (by kernel_rfl) Try.func4
    (ChangeSpec.witness6 (enc := enc) (C := Try.checked) false ⟨#[], #[.slice none 0 0, .slice none 0 0, .int .u8 0], []⟩ 8 (by kernel_rfl) (by kernel_rfl) (by kernel_rfl) (by kernel_rfl)) ?_
  intro W base args ds gs before hval0 hW _ _
  have hval : ∀ (j : Nat) t v, Try.f4.params[j]? = some t → args[j]? = some v → Value.okWide Try.prog W .any base t v := hval0
  have hW' := hW
  obtain ⟨p, q, hA0, hV, rfl, hfz, hnd⟩ := hW
  have hA : DataW.TrodAll enc Try.prog W 0 (fun _ => true) true Try.f4.params.toList args.toList ds p := hA0
  rw [Try.params4] at hA hval
  obtain ⟨v0, vs0, d0, ds0, p0, q0, hargs, rfl, rfl, h0, r0⟩ := trodAll_cons hA
  obtain ⟨v1, vs1, d1, ds1, p1, q1, rfl, rfl, rfl, h1, r1⟩ := trodAll_cons r0
  obtain ⟨v2, vs2, d2, ds2, p2, q2, rfl, rfl, rfl, h2, r2⟩ := trodAll_cons r1
  obtain ⟨rfl, rfl, rfl⟩ := trodAll_nil r2
  obtain rfl : args = #[v0, v1, v2] := by cases args; simp_all
  obtain ⟨dst, dstsl⟩ := open_bs (hval 0 28 v0 rfl rfl) h0
  obtain ⟨src, srcsl⟩ := open_bs (hval 1 28 v1 rfl rfl) h1
  obtain ⟨c, rfl⟩ := open_g (hval 2 5 v2 rfl rfl) h2
  refine (walk (w := W) v0 dst dstsl v1 src srcsl c).mono fun e W' ⟨he, hb⟩ => ?_
  subst he
  exact ⟨_, rfl, law_post laidOut (by kernel_rfl) rfl rfl Try.underlying4 (fun ds h => by match ds, h with | [_, _, _], _ => rfl) hW' hb⟩

theorem proved : Rows.Gf256FusedSaid :=
  OpenClaim.holds_of_wide 4 Try.f4 rfl rfl rfl rfl rfl rfl rfl ⟨rfl, rfl, rfl, rfl, rfl⟩ rfl rfl rfl rfl rfl (by kernel_rfl) Try.func4 (by kernel_rfl)
    (of_decide_eq_true (by kernel_rfl)) (by unfold Func.isWrapper; first | (rw [if_pos (by decide +kernel)]; kernel_rfl) | (rw [if_neg (by decide +kernel)]; exact ⟨rfl, rfl⟩))
    (fun os started H enc _ => lifted os started H enc)
end Go.Proofs.Ytpbfkdfhfgeidaa.LGf256Fused
