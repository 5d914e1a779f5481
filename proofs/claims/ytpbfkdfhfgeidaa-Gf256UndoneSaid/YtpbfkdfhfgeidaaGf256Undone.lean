/- Gf256Undone answers true, whatever the list and the two bytes: adding a multiple twice changes nothing, and multiples add up. No condition. -/
import Derived.Test.YtpbfkdfhfgeidaaLawGf
namespace Go.Proofs.Ytpbfkdfhfgeidaa.LGf256Undone
open Go.RowKit Go.WideShapes Go.ChangeShapes Go.ChangeAt

/-- What is added: the list backwards, and the place. -/
def back (dst : List G) : List G := (List.range dst.length).map fun k => (dst.getD (dst.length - 1 - k) 0 + gOf k)
theorem back_length (dst : List G) : (back dst).length = dst.length := by simp [back]
theorem back_get (dst : List G) (k : Nat) (h : k < dst.length) : (back dst)[k]? = some (dst[dst.length - 1 - k]'(by omega) + gOf k) := by
  simp [back, h, List.getD, List.getElem?_eq_getElem (show dst.length - 1 - k < dst.length by omega)]
theorem fused_twice : ∀ (dst src : List G) (c d : G), dst.length = src.length → gfused (gfused dst src c) src d = gfused dst src (c + d)
  | [], [], _, _, _ => rfl
  | [], _ :: _, _, _, h => by cases h
  | _ :: _, [], _, _, h => by cases h
  | x :: dst, s :: src, c, d, h => by
    simp only [gfused]
    rw [fused_twice dst src c d (by simpa using h), G.add_assoc, ← G.add_mul]
theorem fused_zero : ∀ (dst src : List G), dst.length = src.length → gfused dst src 0 = dst
  | [], [], _ => rfl
  | [], _ :: _, h => by cases h
  | _ :: _, [], h => by cases h
  | x :: dst, s :: src, h => by
    simp only [gfused]
    rw [fused_zero dst src (by simpa using h), G.zero_mul, G.add_zero]
set_option maxRecDepth 20000 in
set_option maxHeartbeats 4000000 in
theorem walk (w : World) (v1 : Value) (dst : List G) (h1 : Sl w 1 v1 dst.length (bvs dst)) (c d : G) :
    Calls Try.prog 7 #[v1, bv c, bv d] w fun e w' => e = .returned (.bool true) ∧ Below w.heap.size w w' := by
  obtain ⟨A1, c1, rfl, hc1, hm1, h1⟩ := h1.open_
  by_cases hlong : 1000 < dst.length
  · clear h1
    go_enter Try.func7, Try.ntmps7
    go_wp2_with (first | (go_at_call 11; refine (awake_any _).mono ?_; rintro e w1 ⟨rfl, hb1⟩))
    go_ret
    exact ⟨rfl, hb1⟩
  · obtain ⟨n, hn⟩ : ∃ n, n = dst.length := ⟨_, rfl⟩
    have HN := Lib.hid hn
    rw [← hn] at h1 hlong
    rw [← hn]
    clear hn
    go_enter Try.func7, Try.ntmps7
    go_wp2_with (first | (go_at_call 11; refine (awake_any _).mono ?_; rintro e w1 ⟨rfl, hb1⟩) | (at_make; refine wpList_make elB rfl _ _ rfl _ _ n rfl rfl (by omega) (by unfold maxLen; omega) ?_; intro w2 hown hb2))
    have HB : Hid ((bvs (back dst)).length = n) := by show _ = _; rw [bvs, List.length_map, back_length, HN.out]
    go_loopw [8] (fun i wr => ∃ k : Nat, k ≤ n ∧ i = iv k ∧ wr.ownsRow w1.heap.size 5 1 (.slice (some ⟨w1.heap.size, 0, none⟩) n n) n (fillv (bvs (back dst)) (.int .u8 0) k) ∧ Below w1.heap.size w1 wr) (fun i _ => n - (intOf i).toNat)
    case atStart => exact ⟨0, by omega, rfl, by rw [fillv_zero, HB.out]; rw [show (Value.int .u8 0).cells = #[Value.int .u8 0] from rfl, made_one] at hown; exact hown, hb2⟩
    case round =>
      obtain ⟨k, hk, rfl, hown1, hbel⟩ := hrel
      clear hown hb2
      by_cases hlt : k < n
      · have hm : n - 1 - k < n := by omega
        obtain ⟨ad1, u1, rfl, hu1, hl1, hx1⟩ := h1.at_ hm
        have hd : n - 1 - k < dst.length := by rw [← HN.out]; exact hm
        obtain rfl : bv dst[n - 1 - k] = u1 := by simpa [bvs, List.getElem?_map, List.getElem?_eq_getElem hd] using hu1
        have hbw : Below w.heap.size w wr := hb1.trans (hbel.mono hb1.size)
        have hy1 := (hbw.cell (by rw [addBlock]; exact hl1)).trans hx1
        have hy3 := hown1.cellAt k (by omega)
        have hy4 := hown1.frozenAt k
        have hfr := fillv_rest (z := .int .u8 0) (Nat.le_refl k) (by rw [HB.out]; exact hlt)
        rw [hfr] at hy3
        have exor := G.add_val dst[n - 1 - k] (gOf k)
        rw [show ((gOf k).val : Int) = (k : Int) % 256 from by show ((k % 256 : Nat) : Int) = _; omega] at exor
        clear hx1 h1 hfr hu1
        go_wp2_with (fail)
        go_roundw
        case rel =>
          have hst := hown1.stored k (.int .u8 ((dst[n - 1 - k] + gOf k).val : Int))
          refine ⟨k + 1, by omega, by go_num, ?_, hbel.setCell (Nat.le_refl _) _⟩
          rw [← fillv_set _ _ (.int .u8 ((dst[n - 1 - k] + gOf k).val : Int)) (by rw [bvs, List.getElem?_map, back_get _ _ (by rw [← HN.out]; exact hlt)]; simp [← HN.out])]
          exact hst.1
        case measure => simp [intOf]; omega
      · obtain rfl : k = n := by omega
        rw [show fillv (bvs (back dst)) (.int .u8 0) k = bvs (back dst) from by rw [← HB.out]; exact fillv_all _ _] at hown1
        have hbw : Below w.heap.size w wr := hb1.trans (hbel.mono hb1.size)
        have s1 := h1.below hbw
        have s2 := Sl.of_own hown1
        have HL : Hid (dst.length = (back dst).length) := (back_length dst).symm
        have HLx : Hid ((gfused dst (back dst) c).length = (back dst).length) := by show _ = _; rw [gfused_length _ _ _ HL.out, HL.out]
        have HLy : Hid ((gfused (gfused dst (back dst) c) (back dst) c) = dst) := by
          show _ = _
          rw [fused_twice _ _ _ _ HL.out, G.add_self, fused_zero _ _ HL.out]
        have HLz : Hid ((gfused (gfused dst (back dst) c) (back dst) d) = gfused dst (back dst) (c + d)) := fused_twice _ _ _ _ HL.out
        have hsz : Hid (dst.length ≤ 1000000) := show _ ≤ _ by rw [← HN.out]; omega
        have eq1 := sameG_self dst
        have eq2 := sameG_self (gfused dst (back dst) (c + d))
        rw [HN.out] at s1 s2
        have s2' : Sl wr 1 (.slice (some ⟨w1.heap.size, 0, none⟩) dst.length dst.length) (back dst).length (bvs (back dst)) := by rw [← HL.out]; exact s2
        rw [HN.out]
        clear hown1 h1 s2
        go_wp2_with (fail)
        refine (fused_any _ _ dst (back dst) c _ HL.out hsz.out s1 s2').mono ?_
        rintro e w3 ⟨vx, rfl, hox, hb3⟩
        have tx : Sl w3 1 vx (gfused dst (back dst) c).length (bvs (gfused dst (back dst) c)) := by rw [gfused_length _ _ _ HL.out]; exact Sl.of_own hox
        have s1 := s1.below hb3
        have s2 := s2'.below hb3
        clear hox s2'
        go_wp2_with (fail)
        refine (fused_any _ _ _ (back dst) c _ HLx.out (by rw [HLx.out, ← HL.out]; exact hsz.out) tx s2).mono ?_
        rintro e w4 ⟨vy, rfl, hoy, hb4⟩
        rw [HLy.out, HLx.out, ← HL.out] at hoy
        have ty := Sl.of_own hoy
        have tx := tx.below hb4
        have s1 := s1.below hb4
        have s2 := s2.below hb4
        clear hoy
        go_wp2_with (fail)
        refine (fused_any _ _ _ (back dst) d _ HLx.out (by rw [HLx.out, ← HL.out]; exact hsz.out) tx s2).mono ?_
        rintro e w5 ⟨vz, rfl, hoz, hb5⟩
        rw [HLz.out, HLx.out, ← HL.out] at hoz
        have tz := Sl.of_own hoz
        have ty := ty.below hb5
        have s1 := s1.below hb5
        have s2 := s2.below hb5
        clear hoz tx
        go_wp2_with (first | (go_at_call 18; refine (add_lit _ _ _ _ (by first | exact lit_refl _ | exact lit0 | exact lit1 | exact lit2) (by first | exact lit_refl _ | exact lit0 | exact lit1 | exact lit2) _).mono ?_; rintro e w' ⟨rfl, rfl⟩))
        refine (fused_any _ _ dst (back dst) (c + d) _ HL.out hsz.out s1 s2).mono ?_
        rintro e w6 ⟨vw, rfl, how, hb6⟩
        have tw := Sl.of_own how
        have ty := ty.below hb6
        have tz := tz.below hb6
        have s1 := s1.below hb6
        clear how
        go_wp2_with (fail)
        refine (same_any _ _ dst dst _ ty s1).mono ?_
        rintro e w' ⟨rfl, rfl⟩
        go_wp2_with (fail)
        refine (same_any _ _ (gfused dst (back dst) (c + d)) (gfused dst (back dst) (c + d)) _ (by rw [gfused_length _ _ _ HL.out]; exact tz) (by rw [gfused_length _ _ _ HL.out]; exact tw)).mono ?_
        rintro e w' ⟨rfl, rfl⟩
        go_wp2_with (fail)
        go_ret
        have b3 : Below w.heap.size w w3 := hbw.trans (hb3.mono hbw.size)
        have b4 : Below w.heap.size w w4 := b3.trans (hb4.mono b3.size)
        have b5 : Below w.heap.size w w5 := b4.trans (hb5.mono b4.size)
        exact ⟨rfl, b5.trans (hb6.mono b5.size)⟩

set_option maxRecDepth 100000 in
theorem lifted (os : Os) (started : os.Started) (H : Type) (enc : TypeId × Value → H) :
    ReturnsInHanded {} Try.checked os 7 .any (Rows.gf256UndoneSpec.pre6 enc Try.prog Try.f7 Rows.gf256UndoneRow.domain false) (Rows.gf256UndoneSpec.post enc Try.prog Try.f7 false true false false) := by
  refine returnsInHanded_of_change (C := Try.checked) own started (by kernel_rfl) Try.func7
    (ChangeSpec.witness6 (enc := enc) (C := Try.checked) false ⟨#[], #[.slice none 0 0, .int .u8 0, .int .u8 0], []⟩ 8 (by kernel_rfl) (by kernel_rfl) (by kernel_rfl) (by kernel_rfl)) ?_
  intro W base args ds gs before hval0 hW _ _
  have hval : ∀ (j : Nat) t v, Try.f7.params[j]? = some t → args[j]? = some v → Value.okWide Try.prog W .any base t v := hval0
  have hW' := hW
  obtain ⟨p, q, hA0, hV, rfl, hfz, hnd⟩ := hW
  have hA : DataW.TrodAll enc Try.prog W 0 (fun _ => true) true Try.f7.params.toList args.toList ds p := hA0
  rw [Try.params7] at hA hval
  obtain ⟨v0, vs0, d0, ds0, p0, q0, hargs, rfl, rfl, h0, r0⟩ := trodAll_cons hA
  obtain ⟨v1, vs1, d1, ds1, p1, q1, rfl, rfl, rfl, h1, r1⟩ := trodAll_cons r0
  obtain ⟨v2, vs2, d2, ds2, p2, q2, rfl, rfl, rfl, h2, r2⟩ := trodAll_cons r1
  obtain ⟨rfl, rfl, rfl⟩ := trodAll_nil r2
  obtain rfl : args = #[v0, v1, v2] := by cases args; simp_all
  obtain ⟨dst, dstsl⟩ := open_bs (hval 0 28 v0 rfl rfl) h0
  obtain ⟨c, rfl⟩ := open_g (hval 1 5 v1 rfl rfl) h1
  obtain ⟨d, rfl⟩ := open_g (hval 2 5 v2 rfl rfl) h2
  refine (walk (w := W) v0 dst dstsl c d).mono fun e W' ⟨he, hb⟩ => ?_
  subst he
  exact ⟨_, rfl, law_post laidOut (by kernel_rfl) rfl rfl Try.underlying4 (fun ds h => by match ds, h with | [_, _, _], _ => rfl) hW' hb⟩

theorem proved : Rows.Gf256UndoneSaid :=
  OpenClaim.holds_of_wide 7 Try.f7 rfl rfl rfl rfl rfl rfl rfl ⟨rfl, rfl, rfl, rfl, rfl⟩ rfl rfl rfl rfl rfl (by kernel_rfl) Try.func7 (by kernel_rfl)
    (of_decide_eq_true (by kernel_rfl)) (by unfold Func.isWrapper; first | (rw [if_pos (by decide +kernel)]; kernel_rfl) | (rw [if_neg (by decide +kernel)]; exact ⟨rfl, rfl⟩))
    (fun os started H enc _ => lifted os started H enc)
end Go.Proofs.Ytpbfkdfhfgeidaa.LGf256Undone
