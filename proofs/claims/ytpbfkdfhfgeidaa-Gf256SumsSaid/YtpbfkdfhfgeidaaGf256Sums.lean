/- Gf256Sums answers true, whatever the pair of bytes and the two exponents: powers of products, sums of exponents, squares of sums. No condition. -/
import Derived.Test.YtpbfkdfhfgeidaaLawGf
namespace Go.Proofs.Ytpbfkdfhfgeidaa.LGf256Sums
open Go.RowKit Go.WideShapes Go.ChangeShapes Go.ChangeAt

open Go.Joins
section
variable {H : Type} {enc : TypeId × Value → H} {W : World}
theorem open_two {b0 : Nat} {v : Value} {d : DataW H} {p : List MemPlace} (hv : Value.okWide Try.prog W .any b0 46 v) (h : DataW.Trod enc Try.prog W 0 (fun _ => true) true 46 v d p) : ∃ a b : G, v = .agg #[bv a, bv b] := by
  obtain ⟨c0, c1, y0, y1, m, rfl, _, _, hy0, hy1⟩ := open_agg2 Try.underlying46 (by kernel_rfl) (by kernel_rfl) hv h
  obtain ⟨x, e0, _, wx⟩ := DataW.trod_int Try.underlying5 hy0
  obtain ⟨y, e1, _, wy⟩ := DataW.trod_int Try.underlying5 hy1
  simp at e0 e1
  subst e0; subst e1
  exact ⟨gOf x.toNat, gOf y.toNat, by rw [gOf_toNat (bounds_u8 wx), gOf_toNat (bounds_u8 wy)]⟩
theorem open_i32x2 {b0 : Nat} {v : Value} {d : DataW H} {p : List MemPlace} (hv : Value.okWide Try.prog W .any b0 47 v) (h : DataW.Trod enc Try.prog W 0 (fun _ => true) true 47 v d p) :
    ∃ n m : Int, v = .agg #[.int .i32 n, .int .i32 m] ∧ (-2147483648 ≤ n ∧ n ≤ 2147483647) ∧ (-2147483648 ≤ m ∧ m ≤ 2147483647) := by
  obtain ⟨zs, hl, rfl, hw⟩ := open_arr_int Try.underlying47 Try.underlying21 (by kernel_rfl) (by kernel_rfl) hv h
  match zs, hl with
  | [x, y], _ => exact ⟨x, y, rfl, bounds_i32 (hw x (by simp)), bounds_i32 (hw y (by simp))⟩
end
theorem pow2_any (x : G) (w : World) :
    Calls Try.prog 24 #[bv x, iv 2] w fun e w' => e = .returned (.tuple #[bv (x * x), iv 0]) ∧ w = w' := by
  by_cases h : x = 0
  · subst h
    rw [G.mul_zero]
    exact zero_pow_pos 2 (by omega) w
  · have e : x * x = zpow x 2 := by rw [zpow, show ((2 : Int) % 255).toNat = 2 from rfl, gpow_succ, gpow_one]
    rw [e]
    exact pow_any x h 2 (by omega) (by omega) w
theorem zpow_mul {a b : G} (n : Int) : zpow a n * zpow b n = zpow (a * b) n := (mul_gpow a b _).symm
theorem zpow_add {a : G} (ha : a ≠ 0) (n m : Int) : zpow a n * zpow a m = zpow a (n + m) := by
  unfold zpow
  rw [← gpow_add, ← gpow_mod ha, show ((n % 255).toNat + (m % 255).toNat) % 255 = ((n + m) % 255).toNat from by omega]
set_option maxRecDepth 20000 in
set_option maxHeartbeats 2000000 in
theorem walk (a b : G) (n m : Int) (hb : (-2147483648 ≤ n ∧ n ≤ 2147483647) ∧ (-2147483648 ≤ m ∧ m ≤ 2147483647)) (w : World) :
    Calls Try.prog 10 #[.agg #[bv a, bv b], .agg #[.int .i32 n, .int .i32 m]] w fun e w' => e = .returned (.bool true) ∧ Below w.heap.size w w' := by
  obtain ⟨⟨n1, n2⟩, m1, m2⟩ := hb
  have es : ((((a + b) * (a + b)).val : Int) != ((a * a + b * b).val : Int)) = false := by
    rw [show (a + b) * (a + b) = a * a + b * b from by rw [G.mul_add, G.add_mul, G.add_mul, G.mul_comm b a, G.add_assoc, ← G.add_assoc (a * b), G.add_self, G.zero_add]]
    simp
  have cells : ∀ w1, Below ((w.alloc (Obj.cells #[bv a, bv b] 46)).alloc (Obj.cells #[.int .i32 n, .int .i32 m] 47)).heap.size ((w.alloc (Obj.cells #[bv a, bv b] 46)).alloc (Obj.cells #[.int .i32 n, .int .i32 m] 47)) w1 →
      (w1.cell? ⟨w.heap.size, 0, none⟩ = some (bv a) ∧ w1.cell? ⟨w.heap.size, 1, none⟩ = some (bv b) ∧ w1.cell? ⟨w.heap.size + 1, 0, none⟩ = some (.int .i32 n) ∧ w1.cell? ⟨w.heap.size + 1, 1, none⟩ = some (.int .i32 m)) ∧ Below w.heap.size w w1 := by
    intro w1 hb
    refine ⟨⟨(hb.cell (by simp; omega)).trans ?_, (hb.cell (by simp; omega)).trans ?_, (hb.cell (by simp)).trans ?_, (hb.cell (by simp)).trans ?_⟩, ?_⟩
    · go_simp
    · go_simp
    · go_simp
    · go_simp
    · exact (((Below.refl _ _).alloc (Nat.le_refl _) _).alloc (by simp) _).trans (hb.mono (by simp; omega))
  have HC := Lib.hid cells
  clear cells
  by_cases ha : a = 0
  · have ea : ((a.val : Int) == 0) = true := by rw [ha]; rfl
    have HA := Lib.hid ha
    clear ha
    go_enter Try.func10, Try.ntmps10
    go_wp2_with (first | (go_at_call 11; refine (awake_any _).mono ?_; rintro e w1 ⟨rfl, hb1⟩))
    obtain ⟨⟨c1, c2, c3, c4⟩, hb2⟩ := HC.out _ hb1
    clear hb1
    go_quiet (fail)
    go_wp2_with (first | (go_at_call 18; refine (add_lit _ _ _ _ (by first | exact lit_refl _ | exact lit0 | exact lit1 | exact lit2) (by first | exact lit_refl _ | exact lit0 | exact lit1 | exact lit2) _).mono ?_; rintro e w' ⟨rfl, rfl⟩) | (go_at_call 24; refine (pow2_any _ _).mono ?_; rintro e w' ⟨rfl, rfl⟩))
    go_ret
    exact ⟨rfl, below_drewN hb2 _⟩
  · by_cases hbz : b = 0
    · have ea := G.beq_zero ha
      have eb : ((b.val : Int) == 0) = true := by rw [hbz]; rfl
      have HA := Lib.hid ha
      have HB := Lib.hid hbz
      clear ha hbz
      go_enter Try.func10, Try.ntmps10
      go_wp2_with (first | (go_at_call 11; refine (awake_any _).mono ?_; rintro e w1 ⟨rfl, hb1⟩))
      obtain ⟨⟨c1, c2, c3, c4⟩, hb2⟩ := HC.out _ hb1
      clear hb1
      go_quiet (fail)
      go_wp2_with (first | (go_at_call 18; refine (add_lit _ _ _ _ (by first | exact lit_refl _ | exact lit0 | exact lit1 | exact lit2) (by first | exact lit_refl _ | exact lit0 | exact lit1 | exact lit2) _).mono ?_; rintro e w' ⟨rfl, rfl⟩) | (go_at_call 24; refine (pow2_any _ _).mono ?_; rintro e w' ⟨rfl, rfl⟩))
      go_ret
      exact ⟨rfl, below_drewN hb2 _⟩
    · have ea := G.beq_zero ha
      have eb := G.beq_zero hbz
      have em : (((zpow a n * zpow b n).val : Int) == ((zpow (a * b) n).val : Int)) = true := by rw [zpow_mul]; simp
      have ep : (((zpow a n * zpow a m).val : Int) == ((zpow a (n + m)).val : Int)) = true := by rw [zpow_add ha]; simp
      have HAB := Lib.hid (mul_ne ha hbz)
      have HA := Lib.hid ha
      have HB := Lib.hid hbz
      clear ha hbz
      go_enter Try.func10, Try.ntmps10
      go_wp2_with (first | (go_at_call 11; refine (awake_any _).mono ?_; rintro e w1 ⟨rfl, hb1⟩))
      obtain ⟨⟨c1, c2, c3, c4⟩, hb2⟩ := HC.out _ hb1
      clear hb1
      go_quiet (fail)
      go_wp2_with (first | (go_at_call 18; refine (add_lit _ _ _ _ (by first | exact lit_refl _ | exact lit0 | exact lit1 | exact lit2) (by first | exact lit_refl _ | exact lit0 | exact lit1 | exact lit2) _).mono ?_; rintro e w' ⟨rfl, rfl⟩) | (go_at_call 19; refine (mul_lit _ _ _ _ (by first | exact lit_refl _ | exact lit0 | exact lit1 | exact lit2) (by first | exact lit_refl _ | exact lit0 | exact lit1 | exact lit2) _).mono ?_; rintro e w' ⟨rfl, rfl⟩) | (go_at_call 24; (with_reducible refine (pow2_any _ _).mono ?_); rintro e w' ⟨rfl, rfl⟩) | (go_at_call 24; (with_reducible refine (pow_any a HA.out _ (by omega) (by omega) _).mono ?_); rintro e w' ⟨rfl, rfl⟩) | (go_at_call 24; (with_reducible refine (pow_any b HB.out _ (by omega) (by omega) _).mono ?_); rintro e w' ⟨rfl, rfl⟩) | (go_at_call 24; (with_reducible refine (pow_any (a * b) HAB.out _ (by omega) (by omega) _).mono ?_); rintro e w' ⟨rfl, rfl⟩))
      go_ret
      exact ⟨rfl, below_drewN hb2 _⟩

set_option maxRecDepth 100000 in
theorem lifted (os : Os) (started : os.Started) (H : Type) (enc : TypeId × Value → H) :
    ReturnsInHanded {} Try.checked os 10 .any (Rows.gf256SumsSpec.pre6 enc Try.prog Try.f10 Rows.gf256SumsRow.domain false) (Rows.gf256SumsSpec.post enc Try.prog Try.f10 false true false false) := by
  refine returnsInHanded_of_change (C := Try.checked) own started (by kernel_rfl) Try.func10
    (ChangeSpec.witness6 (enc := enc) (C := Try.checked) false ⟨#[], #[.agg #[.int .u8 0, .int .u8 0], .agg #[.int .i32 0, .int .i32 0]], []⟩ 8 (by kernel_rfl) (by kernel_rfl) (by kernel_rfl) (by kernel_rfl)) ?_
  intro W base args ds gs before hval0 hW _ _
  have hval : ∀ (j : Nat) t v, Try.f10.params[j]? = some t → args[j]? = some v → Value.okWide Try.prog W .any base t v := hval0
  have hW' := hW
  obtain ⟨p, q, hA0, hV, rfl, hfz, hnd⟩ := hW
  have hA : DataW.TrodAll enc Try.prog W 0 (fun _ => true) true Try.f10.params.toList args.toList ds p := hA0
  rw [Try.params10] at hA hval
  obtain ⟨v0, vs0, d0, ds0, p0, q0, hargs, rfl, rfl, h0, r0⟩ := trodAll_cons hA
  obtain ⟨v1, vs1, d1, ds1, p1, q1, rfl, rfl, rfl, h1, r1⟩ := trodAll_cons r0
  obtain ⟨rfl, rfl, rfl⟩ := trodAll_nil r1
  obtain rfl : args = #[v0, v1] := by cases args; simp_all
  obtain ⟨a, a', rfl⟩ := open_two (hval 0 46 v0 rfl rfl) h0
  obtain ⟨n, n', rfl, nb⟩ := open_i32x2 (hval 1 47 v1 rfl rfl) h1
  refine (walk a a' n n' nb W).mono fun e W' ⟨he, hb⟩ => ?_
  subst he
  exact ⟨_, rfl, law_post laidOut (by kernel_rfl) rfl rfl Try.underlying4 (fun ds h => by match ds, h with | [_, _], _ => rfl) hW' hb⟩

theorem proved : Rows.Gf256SumsSaid :=
  OpenClaim.holds_of_wide 10 Try.f10 rfl rfl rfl rfl rfl rfl rfl ⟨rfl, rfl, rfl, rfl, rfl⟩ rfl rfl rfl rfl rfl (by kernel_rfl) Try.func10 (by kernel_rfl)
    (of_decide_eq_true (by kernel_rfl)) (by unfold Func.isWrapper; first | (rw [if_pos (by decide +kernel)]; kernel_rfl) | (rw [if_neg (by decide +kernel)]; exact ⟨rfl, rfl⟩))
    (fun os started H enc _ => lifted os started H enc)
end Go.Proofs.Ytpbfkdfhfgeidaa.LGf256Sums
