/- Texts joined: Grp26, Grp27. The parts say what each of them proves. No condition. -/
import Derived.Test.YtnkbnponpknokaaJC6
namespace Go.Proofs.Ytnkbnponpknokaa
set_option maxRecDepth 20000
open Go.RowKit Go.Maps
attribute [local irreducible] Calls
section
variable {w : World} {A B D : Option Addr} {c d e N : Nat} {m : Int} {R : List Int} {O : List Blk} {l : List Chg}
set_option maxHeartbeats 2000000 in
theorem compute_w (h : ¬ ((4 ≤ m ∧ m ≤ 16) ∧ okC m l = true)) (hsl : Sl w 9 (.slice D l.length e) l.length (cvs l)) :
    Calls Try.prog 28 #[iv m, .slice A R.length c, .slice B O.length d, .slice D l.length e] w fun e w' => e = .returned (.tuple #[.slice none 0 0, iv 1]) ∧ Below w.heap.size w w' := by
  have hval := valid_i m
  by_cases hw : 4 ≤ m ∧ m ≤ 16
  · have hch := fun w' hb => changes_e (.slice D l.length e) l m w' (by omega) (hsl.below (w' := w') hb)
    have ho : okC m l = false := by
      cases ho : okC m l with
      | false => rfl
      | true => exact absurd ⟨hw, ho⟩ h
    rw [decide_eq_true hw] at hval
    rw [ho] at hch
    refine calls_wc (args := [iv m, .slice A R.length c, .slice B O.length d, .slice D l.length e]) [8, 9] [] Try.func28 rfl Try.ntmps28 rfl rfl rfl rfl (H.refl _) ?_
    refine WC.seq fun K hK => ?_
    refine WC.region rfl ?_
    refine wG rfl rfl (g_assign rfl (.mk (v := .slice _ _ _) rfl rfl)) ?_
    refine wG rfl rfl (g_assign rfl (.mk (v := .int _ _) rfl rfl)) ?_
    refine WL.nil ?_
    (refine hK _ _ ?_; clear hK)
    refine WC.seq fun K hK => ?_
    refine WC.seq fun K hK => ?_
    refine WC.region rfl ?_
    refine wG rfl rfl (g_move rfl (.mk (v := .int _ _) rfl rfl)) ?_
    refine WL.want rfl (WL1.callP rfl rfl rfl (.cons (.mk (v := .int _ _) rfl rfl) .nil) (fun w hw => hval w) ?_)
    refine wG rfl rfl (g_notT rfl (.mk rfl rfl)) ?_
    refine wG rfl rfl (g_move rfl (.mk (v := .bool _) rfl rfl)) ?_
    refine WL.wantG rfl rfl rfl rfl (WL1.give rfl (g_move rfl (.mk (v := .int _ _) rfl rfl)) ?_)
    refine WL.wantG rfl rfl rfl rfl (WL1.give rfl (g_move rfl (.mk (v := .slice _ _ _) rfl rfl)) ?_)
    refine WL.wantG rfl rfl rfl rfl (WL1.callP rfl rfl rfl (.cons (.mk (v := .int _ _) rfl rfl) (.cons (.mk (v := .slice _ _ _) rfl rfl) .nil)) (fun w hw => hch w hw.1) ?_)
    refine WL.wantG rfl rfl rfl rfl (WL1.give rfl (g_notF rfl (.mk rfl rfl)) ?_)
    refine wG rfl rfl (g_pickF rfl (.mk rfl rfl) (.mk (v := .bool _) rfl rfl)) ?_
    refine WL.nil ?_
    (refine hK _ _ ?_; clear hK)
    refine WC.cond_true (.mk rfl rfl) ?_
    refine WC.seq fun K hK => ?_
    refine WC.region rfl ?_
    refine wG rfl rfl (g_assign rfl (.mk (v := .slice _ _ _) rfl rfl)) ?_
    refine wG rfl rfl (g_assign rfl (.mk (v := .int _ _) rfl rfl)) ?_
    refine WL.nil ?_
    (refine hK _ _ ?_; clear hK)
    refine WC.ret ?_
    exact fun w' hw' => ⟨rfl, hw'.1⟩
  · rw [decide_eq_false hw] at hval
    refine calls_wc (args := [iv m, .slice A R.length c, .slice B O.length d, .slice D l.length e]) [8, 9] [] Try.func28 rfl Try.ntmps28 rfl rfl rfl rfl (H.refl _) ?_
    refine WC.seq fun K hK => ?_
    refine WC.region rfl ?_
    refine wG rfl rfl (g_assign rfl (.mk (v := .slice _ _ _) rfl rfl)) ?_
    refine wG rfl rfl (g_assign rfl (.mk (v := .int _ _) rfl rfl)) ?_
    refine WL.nil ?_
    (refine hK _ _ ?_; clear hK)
    refine WC.seq fun K hK => ?_
    refine WC.seq fun K hK => ?_
    refine WC.region rfl ?_
    refine wG rfl rfl (g_move rfl (.mk (v := .int _ _) rfl rfl)) ?_
    refine WL.want rfl (WL1.callP rfl rfl rfl (.cons (.mk (v := .int _ _) rfl rfl) .nil) (fun w hw => hval w) ?_)
    refine wG rfl rfl (g_notF rfl (.mk rfl rfl)) ?_
    refine wG rfl rfl (g_move rfl (.mk (v := .bool _) rfl rfl)) ?_
    refine WL.skipG rfl rfl rfl rfl rfl rfl ?_
    refine WL.skipG rfl rfl rfl rfl rfl rfl ?_
    refine WL.skipG rfl rfl rfl rfl rfl rfl ?_
    refine WL.skipG rfl rfl rfl rfl rfl rfl ?_
    refine wG rfl rfl (g_pickT rfl (.mk rfl rfl) (.mk (v := .bool _) rfl rfl)) ?_
    refine WL.nil ?_
    (refine hK _ _ ?_; clear hK)
    refine WC.cond_true (.mk rfl rfl) ?_
    refine WC.seq fun K hK => ?_
    refine WC.region rfl ?_
    refine wG rfl rfl (g_assign rfl (.mk (v := .slice _ _ _) rfl rfl)) ?_
    refine wG rfl rfl (g_assign rfl (.mk (v := .int _ _) rfl rfl)) ?_
    refine WL.nil ?_
    (refine hK _ _ ?_; clear hK)
    refine WC.ret ?_
    exact fun w' hw' => ⟨rfl, hw'.1⟩
set_option maxHeartbeats 2000000 in
theorem compute_none (hN1 : 1 ≤ N) (hN2 : N ≤ 13) (hl : l = []) (hsl : Sl w 9 (.slice D l.length e) l.length (cvs l)) :
    Calls Try.prog 28 #[iv ((N + 3 : Nat) : Int), .slice A R.length c, .slice B O.length d, .slice D l.length e] w fun e w' => e = .returned (.tuple #[.slice none 0 0, iv 0]) ∧ Below w.heap.size w w' := by
  have hval : ∀ w', Calls Try.prog 41 #[iv ((N + 3 : Nat) : Int)] w' fun e w2 => e = .returned (.bool true) ∧ Below w'.heap.size w' w2 := fun w' => by
    have := valid_i ((N + 3 : Nat) : Int) w'
    rwa [decide_eq_true (by omega)] at this
  have hch := fun w' hb => changes_e (.slice D l.length e) l ((N + 3 : Nat) : Int) w' (by omega) (hsl.below (w' := w') hb)
  have ho : okC ((N + 3 : Nat) : Int) l = true := by rw [hl]; rfl
  have hl0 : l.length = 0 := by rw [hl]; rfl
  rw [ho] at hch
  refine calls_wc (args := [iv ((N + 3 : Nat) : Int), .slice A R.length c, .slice B O.length d, .slice D l.length e]) [8, 9] [] Try.func28 rfl Try.ntmps28 rfl rfl rfl rfl (H.refl _) ?_
  refine WC.seq fun K hK => ?_
  refine WC.region rfl ?_
  refine wG rfl rfl (g_assign rfl (.mk (v := .slice _ _ _) rfl rfl)) ?_
  refine wG rfl rfl (g_assign rfl (.mk (v := .int _ _) rfl rfl)) ?_
  refine WL.nil ?_
  (refine hK _ _ ?_; clear hK)
  refine WC.seq fun K hK => ?_
  refine WC.seq fun K hK => ?_
  refine WC.region rfl ?_
  refine wG rfl rfl (g_move rfl (.mk (v := .int _ _) rfl rfl)) ?_
  refine WL.want rfl (WL1.callP rfl rfl rfl (.cons (.mk (v := .int _ _) rfl rfl) .nil) (fun w hw => hval w) ?_)
  refine wG rfl rfl (g_notT rfl (.mk rfl rfl)) ?_
  refine wG rfl rfl (g_move rfl (.mk (v := .bool _) rfl rfl)) ?_
  refine WL.wantG rfl rfl rfl rfl (WL1.give rfl (g_move rfl (.mk (v := .int _ _) rfl rfl)) ?_)
  refine WL.wantG rfl rfl rfl rfl (WL1.give rfl (g_move rfl (.mk (v := .slice _ _ _) rfl rfl)) ?_)
  refine WL.wantG rfl rfl rfl rfl (WL1.callP rfl rfl rfl (.cons (.mk (v := .int _ _) rfl rfl) (.cons (.mk (v := .slice _ _ _) rfl rfl) .nil)) (fun w hw => hch w hw.1) ?_)
  refine WL.wantG rfl rfl rfl rfl (WL1.give rfl (g_notT rfl (.mk rfl rfl)) ?_)
  refine wG rfl rfl (g_pickF rfl (.mk rfl rfl) (.mk (v := .bool _) rfl rfl)) ?_
  refine WL.nil ?_
  (refine hK _ _ ?_; clear hK)
  refine WC.cond_false (.mk rfl rfl) ?_
  refine WC.skip ?_
  (refine hK _ _ ?_; clear hK)
  refine WC.seq fun K hK => ?_
  refine WC.seq fun K hK => ?_
  refine WC.region rfl ?_
  refine wG rfl rfl (g_move rfl (.mk (v := .slice _ _ _) rfl rfl)) ?_
  refine wG rfl rfl (g_len rfl (.mk rfl rfl) rfl) ?_
  refine wG rfl rfl (g_eq rfl (.mk rfl rfl) (.mk rfl rfl) (decide_eq_true (by omega))) ?_
  refine WL.nil ?_
  (refine hK _ _ ?_; clear hK)
  refine WC.cond_true (.mk rfl rfl) ?_
  refine WC.seq fun K hK => ?_
  refine WC.region rfl ?_
  refine wG rfl rfl (g_assign rfl (.mk (v := .slice _ _ _) rfl rfl)) ?_
  refine wG rfl rfl (g_assign rfl (.mk (v := .int _ _) rfl rfl)) ?_
  refine WL.nil ?_
  (refine hK _ _ ?_; clear hK)
  refine WC.ret ?_
  exact fun w' hw' => ⟨rfl, hw'.1⟩
set_option maxHeartbeats 2000000 in
theorem compute_len (hN1 : 1 ≤ N) (hN2 : N ≤ 13) (ho : okC ((N + 3 : Nat) : Int) l = true) (hl : l.length ≠ 0) (hRO : R.length ≠ O.length) (hs : Sl w 1 (.slice A R.length c) R.length (ivs R)) (hsb : Sl w 8 (.slice B O.length d) O.length (kvs O)) (hsl : Sl w 9 (.slice D l.length e) l.length (cvs l)) :
    Calls Try.prog 28 #[iv ((N + 3 : Nat) : Int), .slice A R.length c, .slice B O.length d, .slice D l.length e] w fun e w' => e = .returned (.tuple #[.slice none 0 0, iv 1]) ∧ Below w.heap.size w w' := by
  have hval : ∀ w', Calls Try.prog 41 #[iv ((N + 3 : Nat) : Int)] w' fun e w2 => e = .returned (.bool true) ∧ Below w'.heap.size w' w2 := fun w' => by
    have := valid_i ((N + 3 : Nat) : Int) w'
    rwa [decide_eq_true (by omega)] at this
  have hch := fun w' hb => changes_e (.slice D l.length e) l ((N + 3 : Nat) : Int) w' (by omega) (hsl.below (w' := w') hb)
  rw [ho] at hch
  refine calls_wc (args := [iv ((N + 3 : Nat) : Int), .slice A R.length c, .slice B O.length d, .slice D l.length e]) [8, 9] [] Try.func28 rfl Try.ntmps28 rfl rfl rfl rfl (H.refl _) ?_
  refine WC.seq fun K hK => ?_
  refine WC.region rfl ?_
  refine wG rfl rfl (g_assign rfl (.mk (v := .slice _ _ _) rfl rfl)) ?_
  refine wG rfl rfl (g_assign rfl (.mk (v := .int _ _) rfl rfl)) ?_
  refine WL.nil ?_
  (refine hK _ _ ?_; clear hK)
  refine WC.seq fun K hK => ?_
  refine WC.seq fun K hK => ?_
  refine WC.region rfl ?_
  refine wG rfl rfl (g_move rfl (.mk (v := .int _ _) rfl rfl)) ?_
  refine WL.want rfl (WL1.callP rfl rfl rfl (.cons (.mk (v := .int _ _) rfl rfl) .nil) (fun w hw => hval w) ?_)
  refine wG rfl rfl (g_notT rfl (.mk rfl rfl)) ?_
  refine wG rfl rfl (g_move rfl (.mk (v := .bool _) rfl rfl)) ?_
  refine WL.wantG rfl rfl rfl rfl (WL1.give rfl (g_move rfl (.mk (v := .int _ _) rfl rfl)) ?_)
  refine WL.wantG rfl rfl rfl rfl (WL1.give rfl (g_move rfl (.mk (v := .slice _ _ _) rfl rfl)) ?_)
  refine WL.wantG rfl rfl rfl rfl (WL1.callP rfl rfl rfl (.cons (.mk (v := .int _ _) rfl rfl) (.cons (.mk (v := .slice _ _ _) rfl rfl) .nil)) (fun w hw => hch w hw.1) ?_)
  refine WL.wantG rfl rfl rfl rfl (WL1.give rfl (g_notT rfl (.mk rfl rfl)) ?_)
  refine wG rfl rfl (g_pickF rfl (.mk rfl rfl) (.mk (v := .bool _) rfl rfl)) ?_
  refine WL.nil ?_
  (refine hK _ _ ?_; clear hK)
  refine WC.cond_false (.mk rfl rfl) ?_
  refine WC.skip ?_
  (refine hK _ _ ?_; clear hK)
  refine WC.seq fun K hK => ?_
  refine WC.seq fun K hK => ?_
  refine WC.region rfl ?_
  refine wG rfl rfl (g_move rfl (.mk (v := .slice _ _ _) rfl rfl)) ?_
  refine wG rfl rfl (g_len rfl (.mk rfl rfl) rfl) ?_
  refine wG rfl rfl (g_eq rfl (.mk rfl rfl) (.mk rfl rfl) (decide_eq_false (by omega))) ?_
  refine WL.nil ?_
  (refine hK _ _ ?_; clear hK)
  refine WC.cond_false (.mk rfl rfl) ?_
  refine WC.skip ?_
  (refine hK _ _ ?_; clear hK)
  refine WC.seq fun K hK => ?_
  refine WC.seq fun K hK => ?_
  refine WC.region rfl ?_
  refine wG rfl rfl (g_move rfl (.mk (v := .slice _ _ _) rfl rfl)) ?_
  refine wG rfl rfl (g_len rfl (.mk rfl rfl) rfl) ?_
  refine wG rfl rfl (g_move rfl (.mk (v := .slice _ _ _) rfl rfl)) ?_
  refine wG rfl rfl (g_len rfl (.mk rfl rfl) rfl) ?_
  refine wG rfl rfl (g_ne rfl (.mk rfl rfl) (.mk rfl rfl) (decide_eq_true (by omega))) ?_
  refine WL.nil ?_
  (refine hK _ _ ?_; clear hK)
  refine WC.cond_true (.mk rfl rfl) ?_
  refine WC.seq fun K hK => ?_
  refine WC.region rfl ?_
  refine wG rfl rfl (g_assign rfl (.mk (v := .slice _ _ _) rfl rfl)) ?_
  refine wG rfl rfl (g_assign rfl (.mk (v := .int _ _) rfl rfl)) ?_
  refine WL.nil ?_
  (refine hK _ _ ?_; clear hK)
  refine WC.ret ?_
  exact fun w' hw' => ⟨rfl, hw'.1⟩
set_option maxHeartbeats 8000000 in
theorem compute_n (hN1 : 1 ≤ N) (hN2 : N ≤ 13) (ho : okC ((N + 3 : Nat) : Int) l = true) (hl : l.length ≠ 0) (hll : l.length ≤ 1000000) (hRO : R.length = O.length) (hR40 : R.length ≤ 1000) (hs : Sl w 1 (.slice A R.length c) R.length (ivs R)) (hsb : Sl w 8 (.slice B O.length d) O.length (kvs O)) (hsl : Sl w 9 (.slice D l.length e) l.length (cvs l)) :
    Calls Try.prog 28 #[iv ((N + 3 : Nat) : Int), .slice A R.length c, .slice B O.length d, .slice D l.length e] w fun en w' => ∃ v' M, en = .returned v' ∧ H w M w' ∧
      ((∃ p, cmpP N R O l = some p ∧ ∃ A1 c1, v' = .tuple #[.slice A1 ((tch l (N + 3)).length + 3) c1, iv 0] ∧ M = [vec A1 ((tch l (N + 3)).length + 3) c1 70 9 (cvs (resL l (tch l (N + 3)) N p))]) ∨ (cmpP N R O l = none ∧ v' = .tuple #[.slice none 0 0, iv 1])) := by
  have hsub : IntKind.i64.wrap (((N + 3 : Nat) : Int) - 3) = (N : Int) := by rw [IntWalk.i64_in _ (by omega)]; omega
  have hval : ∀ w', Calls Try.prog 41 #[iv ((N + 3 : Nat) : Int)] w' fun e w2 => e = .returned (.bool true) ∧ Below w'.heap.size w' w2 := fun w' => by
    have := valid_i ((N + 3 : Nat) : Int) w'
    rwa [decide_eq_true (by omega)] at this
  have hch := fun w' hb => changes_e (.slice D l.length e) l ((N + 3 : Nat) : Int) w' (by omega) (hsl.below (w' := w') hb)
  rw [ho] at hch
  have hTlt : ∀ k, k < (tch l (N + 3)).length → nth (tch l (N + 3)) k < N := fun k hk => tch_lt ho hk
  have hTl : (tch l (N + 3)).length ≤ N + 3 := numL_le _ _
  have hDall := dP_all ho
  have hcmp : cmpP N R O l = if R = ints (numL (dP (N + 3) (ints (tch l (N + 3)))) (N + 3)) then some (dltP l O (tch l (N + 3)) (tch l (N + 3)).length)
    else if R = ints (numL (rP (N + 3) (ints (tch l (N + 3)))) (N + 3)) then some (enc (datP (rsP N O (nats R) R.length) l l.length))
    else if R.length = N ∧ ∀ i, i < N → okR (N + 3) R i then some (enc (datP (frD N O R) l l.length)) else none := rfl
  have hnum : ∀ (bm b10 c : Nat) (w' : World), w'.cell? ⟨b10, 0, none⟩ = some (.map (some bm)) → w'.ownsMap Try.prog 3 selfR bm c (mD l l.length) → Calls Try.prog 44 #[iv ((N + 3 : Nat) : Int), .func (.func 48) #[] [cellPtr (some ⟨b10, 0, none⟩) 0].toArray] w' fun e w2 => ∃ v' M, e = .returned v' ∧ H w' M w2 ∧ ∃ A c, v' = .slice A (tch l (N + 3)).length c ∧ M = [vec A (tch l (N + 3)).length c 3 1 (ldv (tch l (N + 3)))] := fun bm b10 c w' h1 h2 => numbers_n _ _ _ (N + 3) w' (pred_last (by omega) h1 h2) (by omega)
  obtain ⟨T, hT⟩ : ∃ T, T = tch l (N + 3) := ⟨_, rfl⟩
  have hTm : ∀ z : Nat, z < N + 3 → (lastC l z l.length).isSome = true → z < N := fun z hz h => by
    have h1 : z ∈ tch l (N + 3) := tch_mem.2 ⟨hz, h⟩
    rw [tch_data ho, numL_mem] at h1
    exact h1.1
  rw [← hT] at hTlt hTl hcmp hDall hnum ⊢
  obtain ⟨Dl, hD⟩ : ∃ Dl, Dl = numL (dP (N + 3) (ints T)) (N + 3) := ⟨_, rfl⟩
  obtain ⟨Rs, hRs⟩ : ∃ Rs, Rs = numL (rP (N + 3) (ints T)) (N + 3) := ⟨_, rfl⟩
  have hdel := fun w (A B : Option Addr) (c d : Nat) h h2 => gdelta_k (w := w) (A := A) (c := c) (B := B) (d := d) (N := N) (m := N + 3) (T := T) (bs := List.replicate (N + 3) false) rfl List.length_replicate hN1 hN2 rfl hD h h2
  have hrst := fun w (A B : Option Addr) (c d : Nat) h h2 => grest_k (w := w) (A := A) (c := c) (B := B) (d := d) (N := N) (m := N + 3) (T := T) (bs := List.replicate (N + 3) false) rfl List.length_replicate hN1 hN2 rfl hRs h h2
  have hRsN : ∀ k, k < Rs.length → nth Rs k < N := fun k hk => by
    have h1 : nth Rs k ∈ numL (rP (N + 3) (ints T)) (N + 3) := by rw [← hRs, nth_eq hk]; exact List.getElem_mem hk
    have h2 := ((numL_mem _).1 h1).2
    unfold rP at h2
    rw [Bool.and_eq_true] at h2
    have := of_decide_eq_true h2.1
    omega
  rw [← hD, ← hRs] at hcmp
  rw [← hD] at hDall
  have hDl : Dl.length = T.length + 3 := by rw [hDall, List.length_append]; rfl
  have hRsl : Rs.length ≤ N + 3 := by rw [hRs]; exact numL_le _ _
  have hmade := bls_made (N + 3)
  clear hT hD hRs hDall
  refine calls_wc (args := [iv ((N + 3 : Nat) : Int), .slice A R.length c, .slice B O.length d, .slice D l.length e]) [8, 9] [] Try.func28 rfl Try.ntmps28 rfl rfl rfl rfl (H.refl _) ?_
  refine WC.seq fun K hK => ?_
  refine WC.region rfl ?_
  refine wG rfl rfl (g_assign rfl (.mk (v := .slice _ _ _) rfl rfl)) ?_
  refine wG rfl rfl (g_assign rfl (.mk (v := .int _ _) rfl rfl)) ?_
  refine WL.nil ?_
  (refine hK _ _ ?_; clear hK)
  refine WC.seq fun K hK => ?_
  refine WC.seq fun K hK => ?_
  refine WC.region rfl ?_
  refine wG rfl rfl (g_move rfl (.mk (v := .int _ _) rfl rfl)) ?_
  refine WL.want rfl (WL1.callP rfl rfl rfl (.cons (.mk (v := .int _ _) rfl rfl) .nil) (fun w hw => hval w) ?_)
  refine wG rfl rfl (g_notT rfl (.mk rfl rfl)) ?_
  refine wG rfl rfl (g_move rfl (.mk (v := .bool _) rfl rfl)) ?_
  refine WL.wantG rfl rfl rfl rfl (WL1.give rfl (g_move rfl (.mk (v := .int _ _) rfl rfl)) ?_)
  refine WL.wantG rfl rfl rfl rfl (WL1.give rfl (g_move rfl (.mk (v := .slice _ _ _) rfl rfl)) ?_)
  refine WL.wantG rfl rfl rfl rfl (WL1.callP rfl rfl rfl (.cons (.mk (v := .int _ _) rfl rfl) (.cons (.mk (v := .slice _ _ _) rfl rfl) .nil)) (fun w hw => hch w hw.1) ?_)
  refine WL.wantG rfl rfl rfl rfl (WL1.give rfl (g_notT rfl (.mk rfl rfl)) ?_)
  refine wG rfl rfl (g_pickF rfl (.mk rfl rfl) (.mk (v := .bool _) rfl rfl)) ?_
  refine WL.nil ?_
  (refine hK _ _ ?_; clear hK)
  refine WC.cond_false (.mk rfl rfl) ?_
  refine WC.skip ?_
  (refine hK _ _ ?_; clear hK)
  refine WC.seq fun K hK => ?_
  refine WC.seq fun K hK => ?_
  refine WC.region rfl ?_
  refine wG rfl rfl (g_move rfl (.mk (v := .slice _ _ _) rfl rfl)) ?_
  refine wG rfl rfl (g_len rfl (.mk rfl rfl) rfl) ?_
  refine wG rfl rfl (g_eq rfl (.mk rfl rfl) (.mk rfl rfl) (decide_eq_false (by omega))) ?_
  refine WL.nil ?_
  (refine hK _ _ ?_; clear hK)
  refine WC.cond_false (.mk rfl rfl) ?_
  refine WC.skip ?_
  (refine hK _ _ ?_; clear hK)
  refine WC.seq fun K hK => ?_
  refine WC.seq fun K hK => ?_
  refine WC.region rfl ?_
  refine wG rfl rfl (g_move rfl (.mk (v := .slice _ _ _) rfl rfl)) ?_
  refine wG rfl rfl (g_len rfl (.mk rfl rfl) rfl) ?_
  refine wG rfl rfl (g_move rfl (.mk (v := .slice _ _ _) rfl rfl)) ?_
  refine wG rfl rfl (g_len rfl (.mk rfl rfl) rfl) ?_
  refine wG rfl rfl (g_ne rfl (.mk rfl rfl) (.mk rfl rfl) (decide_eq_false (by omega))) ?_
  refine WL.nil ?_
  (refine hK _ _ ?_; clear hK)
  refine WC.cond_false (.mk rfl rfl) ?_
  refine WC.skip ?_
  (refine hK _ _ ?_; clear hK)
  refine WC.seq fun K hK => ?_
  refine WC.region rfl ?_
  refine WL.want rfl (WL1.makeMap (k := 3) rfl rfl (fun b51 => ?_))
  refine WL.want rfl (WL1.alloc rfl rfl rfl rfl (fun b10 => ?_))
  refine WL.want rfl (WL1.store1 rfl rfl (.mk rfl rfl) (.mk rfl rfl) rfl rfl (Nat.le_of_ble_eq_true rfl) (.head) ?_)
  refine WL.nil ?_
  (refine hK _ _ ?_; clear hK)
  refine WC.seq fun K hK => ?_
  refine WC.seq fun K hK => ?_
  refine WC.region rfl ?_
  refine wG rfl rfl (g_move rfl (.mk (v := .slice _ _ _) rfl rfl)) ?_
  refine wG rfl rfl (g_len rfl (.mk rfl rfl) rfl) ?_
  refine wG rfl rfl (g_move rfl (.mk (v := .int _ _) rfl rfl)) ?_
  refine WL.nil ?_
  (refine hK _ _ ?_; clear hK)
  refine WC.block ?_
  refine WC.loopF (fun i : Nat => [(54, iv i), (53, iv l.length), (52, .slice D l.length e), (10, cellPtr (some ⟨b10, 0, none⟩) 0), (0, iv ((N + 3 : Nat) : Int)), (1, .slice A R.length c), (2, .slice B O.length d), (3, .slice D l.length e)]) (fun i => [pt b10 88 [.map (some b51)], mp Try.prog 3 b51 i (mD l i)]) (fun i => i ≤ l.length) (fun i => l.length - i) 0 (by repeat (first | exact trivial | refine ⟨rfl, ?_⟩)) (Imp.pick (by repeat (first | exact .head | apply Take.tail)) (Imp.pick (by repeat (first | exact .head | apply Take.tail)) (Imp.nil _))) (by omega) ?_
  intro i U hi
  by_cases hlt : i < l.length
  · have hgd := chg_row (l := l) (k := i) hlt
    have hmn : (mD l i).put (.int .i64 (nth l i).s) (.held (kv (nth l i).b)) = mD l (i + 1) := rfl
    have hq := okC_each ho hlt
    obtain ⟨x, hx⟩ : ∃ x, x = nth l i := ⟨_, rfl⟩
    rw [← hx] at hgd hmn hq
    have hkx : keyOf Try.prog 3 (iv x.s) = some (.int .i64 x.s) := by
      have := key_nat (i := x.s.toNat) (by omega)
      rwa [Int.toNat_of_nonneg (by omega)] at this
    have g0 : x.cells[0 + (0 + 0)]? = some (iv x.s) := rfl
    have gb : ∀ j u, x.b.cells[j]? = some u → x.cells[0 + (0 + 1 + j)]? = some u := fun j u h => by rw [show 0 + (0 + 1 + j) = 1 + j from by omega]; exact x.atb j u h
    clear hx hnum hdel hrst hcmp
    refine WC.seq fun K hK => ?_
    refine WC.region rfl ?_
    refine wG rfl rfl (g_lt rfl (.mk rfl rfl) (.mk rfl rfl) (decide_eq_true (by omega))) ?_
    refine WL.nil ?_
    (refine hK _ _ ?_; clear hK)
    refine WC.seq fun K hK => ?_
    refine WC.cond_true (.mk rfl rfl) ?_
    refine WC.skip ?_
    (refine hK _ _ ?_; clear hK)
    refine WC.seq fun K hK => ?_
    refine WC.block ?_
    refine WC.seq fun K hK => ?_
    refine WC.region rfl ?_
    refine wG rfl rfl (g_indexAddr (sz := 9) rfl (.mk rfl rfl) (.mk rfl rfl) rfl rfl rfl (by omega) (fun _ _ => sl_some hsl (by omega))) ?_
    refine wG rfl rfl (g_loadA rfl (.mk rfl rfl) rfl (sz9 _) (rdr_sl hsl (by omega) hgd)) ?_
    refine WL.want rfl (WL1.alloc rfl rfl rfl rfl (fun b12 => ?_))
    refine WL.want rfl (WL1.storeAll rfl rfl (.mk rfl rfl) (.mk rfl rfl) (sz9 _) (Chg.one _) (by rw [Chg.len]; rfl) .head ?_)
    refine WL.nil ?_
    (refine hK _ _ ?_; clear hK)
    refine WC.region rfl ?_
    refine wG rfl rfl (g_load rfl (.mk rfl rfl) rfl (rd_pt (.tail _ (.head _)) rfl)) ?_
    refine wG rfl rfl (g_fieldAddr (off := 0) rfl (.mk rfl rfl) rfl (fun _ _ => rfl)) ?_
    refine wG rfl rfl (g_load rfl (.mk rfl rfl) rfl (rd_pt (by repeat (first | exact .head _ | apply List.Mem.tail)) g0)) ?_
    refine wG rfl rfl (g_fieldAddr (off := 1) rfl (.mk rfl rfl) rfl (fun _ _ => rfl)) ?_
    refine wG rfl rfl (g_loadA rfl (.mk rfl rfl) rfl (sz8 _) (rdr_pt (cs := x.b.cells) (by repeat (first | exact .head _ | apply List.Mem.tail)) gb)) ?_
    refine WL.want rfl (WL1.mapUpdate (c := i) rfl rfl (.mk rfl rfl) (.mk rfl rfl) (.mk (v := kv _) rfl rfl) kI rfl (by unfold maxLen; omega) hkx (by repeat (first | exact .head | apply Swap.tail)) ?_)
    refine WL.nil ?_
    (refine hK _ _ ?_; clear hK)
    refine WC.region rfl ?_
    refine wG rfl rfl (g_add rfl (.mk rfl rfl) (.mk rfl rfl) (IntWalk.i64_in _ (by omega))) ?_
    refine wG rfl rfl (g_move rfl (.mk (v := .int _ _) rfl rfl)) ?_
    refine WL.nil ?_
    exact ⟨i + 1, (by repeat (first | exact trivial | refine ⟨rfl, ?_⟩)), by rw [← hmn]; exact Imp.pick (by repeat (first | exact .head | apply Take.tail)) (Imp.pick (by repeat (first | exact .head | apply Take.tail)) (Imp.nil _)), by omega, by omega⟩
  · obtain rfl : i = l.length := by omega
    refine WC.seq fun K hK => ?_
    refine WC.region rfl ?_
    refine wG rfl rfl (g_lt rfl (.mk rfl rfl) (.mk rfl rfl) (decide_eq_false (by omega))) ?_
    refine WL.nil ?_
    (refine hK _ _ ?_; clear hK)
    refine WC.seq fun K hK => ?_
    refine WC.cond_false (.mk rfl rfl) ?_
    refine WC.exit ?_
    (clear hK; refine hK _ _ ?_; clear hK)
    refine WC.seq fun K hK => ?_
    refine WC.region rfl ?_
    refine wG rfl rfl (g_move rfl (.mk (v := .int _ _) rfl rfl)) ?_
    refine wG rfl rfl (g_makeFunc rfl (.cons (.mk (v := cellPtr _ _) rfl rfl) .nil)) ?_
    (refine WL.want rfl (WL1.callN rfl rfl rfl (.cons (.mk (v := .int _ _) rfl rfl) (.cons (.mk (v := .func _ _ _) rfl rfl) .nil)) (fun w hw => hnum _ _ _ w (cell_pt hw (by repeat (first | exact .head _ | apply List.Mem.tail)) rfl) (mp_own hw (by repeat (first | exact .head _ | apply List.Mem.tail)))) ?_); rintro _ _ ⟨At, ct, rfl, rfl⟩)
    refine wG rfl rfl (g_assign rfl (.mk (v := .slice _ _ _) rfl rfl)) ?_
    refine WL.nil ?_
    (refine hK _ _ ?_; clear hK)
    refine WC.seq fun K hK => ?_
    refine WC.region rfl ?_
    refine wG rfl rfl (g_move rfl (.mk (v := .int _ _) rfl rfl)) ?_
    refine WL.want rfl (WL1.make elBo rfl rfl (.mk rfl rfl) (.mk rfl rfl) rfl rfl (by omega) (by unfold maxLen; omega) (fun b68 => ?_))
    refine wG rfl rfl (g_assign rfl (.mk (v := .slice _ _ _) rfl rfl)) ?_
    refine WL.nil ?_
    (refine hK _ _ ?_; clear hK)
    refine WC.seq fun K hK => ?_
    refine WC.region rfl ?_
    refine wG rfl rfl (g_move rfl (.mk (v := .int _ _) rfl rfl)) ?_
    refine wG rfl rfl (g_move rfl (.mk (v := .slice _ _ _) rfl rfl)) ?_
    refine wG rfl rfl (g_move rfl (.mk (v := .slice _ _ _) rfl rfl)) ?_
    (refine WL.want rfl (WL1.callN rfl rfl rfl (.cons (.mk (v := .int _ _) rfl rfl) (.cons (.mk (v := .slice _ _ _) rfl rfl) (.cons (.mk (v := .slice _ _ _) rfl rfl) .nil))) (fun w hw => hdel w _ _ _ _ (Sl.of_vec hw (by repeat (first | exact .head _ | apply List.Mem.tail))) (Sl.of_vecE hw (by repeat (first | exact .head _ | apply List.Mem.tail)) rfl hmade)) ?_); rintro _ _ ⟨Ad, cd, qd, rfl, rfl⟩)
    refine wG rfl rfl (g_move rfl (.mk (v := .tuple _) rfl rfl)) ?_
    refine wG rfl rfl (g_extract rfl (.mk rfl rfl) rfl) ?_
    refine wG rfl rfl (g_extract rfl (.mk rfl rfl) rfl) ?_
    refine wG rfl rfl (g_assign rfl (.mk (v := .slice _ _ _) rfl rfl)) ?_
    refine wG rfl rfl (g_assign rfl (.mk (v := .bool _) rfl rfl)) ?_
    refine WL.nil ?_
    (refine hK _ _ ?_; clear hK)
    refine WC.seq fun K hK => ?_
    refine WC.region rfl ?_
    refine wG rfl rfl (g_move rfl (.mk (v := .int _ _) rfl rfl)) ?_
    refine wG rfl rfl (g_move rfl (.mk (v := .slice _ _ _) rfl rfl)) ?_
    refine wG rfl rfl (g_move rfl (.mk (v := .slice _ _ _) rfl rfl)) ?_
    (refine WL.want rfl (WL1.callN rfl rfl rfl (.cons (.mk (v := .int _ _) rfl rfl) (.cons (.mk (v := .slice _ _ _) rfl rfl) (.cons (.mk (v := .slice _ _ _) rfl rfl) .nil))) (fun w hw => hrst w _ _ _ _ (Sl.of_vec hw (by repeat (first | exact .head _ | apply List.Mem.tail))) (Sl.of_vecE hw (by repeat (first | exact .head _ | apply List.Mem.tail)) rfl hmade)) ?_); rintro _ _ ⟨Ar, cr, qr, rfl, rfl⟩)
    refine wG rfl rfl (g_move rfl (.mk (v := .tuple _) rfl rfl)) ?_
    refine wG rfl rfl (g_extract rfl (.mk rfl rfl) rfl) ?_
    refine wG rfl rfl (g_extract rfl (.mk rfl rfl) rfl) ?_
    refine wG rfl rfl (g_assign rfl (.mk (v := .slice _ _ _) rfl rfl)) ?_
    refine wG rfl rfl (g_assign rfl (.mk (v := .bool _) rfl rfl)) ?_
    refine WL.nil ?_
    (refine hK _ _ ?_; clear hK)
    refine WC.seq fun K hK => ?_
    refine WC.region rfl ?_
    refine wG rfl rfl (g_assign rfl (.mk (v := .slice _ _ _) rfl rfl)) ?_
    refine WL.nil ?_
    (refine hK _ _ ?_; clear hK)
    refine WC.seqF (fun q : Option Addr × Nat × List Blk => [(19, .slice q.1 3 q.2.1), (13, .slice At T.length ct), (10, cellPtr (some ⟨b10, 0, none⟩) 0), (0, iv ((N + 3 : Nat) : Int))]) (fun q => [mp Try.prog 3 b51 l.length (mD l l.length), vec q.1 3 q.2.1 38 8 (kvs q.2.2), vec At T.length ct 3 1 (ldv T), pt b10 88 [.map (some b51)]]) (fun q => cmpP N R O l = some q.2.2 ∧ q.2.2.length = 3) ?_ (fun q U2 hq => ?_)
    refine WC.block ?_
    rotate_left
    refine WC.seq fun K hK => ?_
    refine WC.region rfl ?_
    refine wG rfl rfl (g_assign rfl (.mk (v := .slice _ _ _) rfl rfl)) ?_
    refine WL.nil ?_
    (refine hK _ _ ?_; clear hK)
    refine WC.seq fun K hK => ?_
    refine WC.seq fun K hK => ?_
    refine WC.region rfl ?_
    refine wG rfl rfl (g_move rfl (.mk (v := .slice _ _ _) rfl rfl)) ?_
    refine wG rfl rfl (g_len rfl (.mk rfl rfl) rfl) ?_
    refine wG rfl rfl (g_move rfl (.mk (v := .int _ _) rfl rfl)) ?_
    refine WL.nil ?_
    (refine hK _ _ ?_; clear hK)
    refine WC.block ?_
    rotate_left
    · clear hnum hdel hrst hval hch hmade
      by_cases hA : R = ints Dl
      · have hp := (hcmp.trans (if_pos hA))
        have hdT : decide (R = ints Dl) = true := decide_eq_true hA
        have hOl : O.length = T.length + 3 := by rw [← hRO, hA, ints_len, hDl]
        have hcd : O.length ≤ d := by
          obtain ⟨_, _, e1, h1, _⟩ := hsb.open_
          injection e1 with _ _ e3
          omega
        have hpt : Sl w 8 (.slice (subA B d T.length 8) (O.length - T.length) (d - T.length)) 3 (kvs (O.drop T.length)) := by
          have e1 : (O.drop T.length).take (O.length - T.length) = O.drop T.length := List.take_of_length_le (by rw [List.length_drop]; exact Nat.le_refl _)
          have := Sl.blks (l := T.length) (h := O.length) hsb rfl (by omega) (by omega)
          rw [e1] at this
          exact this.cast (by rw [List.length_drop]; omega)
        have hcl : ∀ w', Below w.heap.size w w' → Calls Try.prog 36 #[.slice (subA B d T.length 8) (O.length - T.length) (d - T.length)] w' fun e w2 => ∃ v' M, e = .returned v' ∧ H w' M w2 ∧ ∃ A c, v' = .slice A 3 c ∧ M = [vec A 3 c 38 8 (kvs (dltP l O T 0))] := fun w' hb => by
          have h3 : (O.drop T.length).length = 3 := by rw [List.length_drop]; omega
          have := clone_n (.slice (subA B d T.length 8) (O.length - T.length) (d - T.length)) (O.drop T.length) w' (by rw [h3]; exact hpt.below hb) (by omega) (by omega)
          rwa [h3] at this
        clear hcmp hRsN
        refine WC.seq fun K hK => ?_
        refine WC.region rfl ?_
        refine wG rfl rfl (g_move rfl (.mk (v := .slice _ _ _) rfl rfl)) ?_
        refine wG rfl rfl (g_move rfl (.mk (v := .slice _ _ _) rfl rfl)) ?_
        refine WL.want rfl (WL1.callP rfl rfl rfl (.cons (.mk (v := .slice _ _ _) rfl rfl) (.cons (.mk (v := .slice _ _ _) rfl rfl) .nil)) (fun w hw => intseq_k rfl rfl hdT (hs.below hw.1) (Sl.of_vec hw (by repeat (first | exact .head _ | apply List.Mem.tail)))) ?_)
        refine wG rfl rfl (g_assign rfl (.mk (v := .bool _) rfl rfl)) ?_
        refine WL.nil ?_
        (refine hK _ _ ?_; clear hK)
        refine WC.cond_true (.mk rfl rfl) ?_
        refine WC.seq fun K hK => ?_
        refine WC.region rfl ?_
        refine wG rfl rfl (g_move rfl (.mk (v := .slice _ _ _) rfl rfl)) ?_
        refine wG rfl rfl (g_move rfl (.mk (v := .slice _ _ _) rfl rfl)) ?_
        refine wG rfl rfl (g_len rfl (.mk rfl rfl) rfl) ?_
        refine wG rfl rfl (g_slice (sz := 8) (kh := .i64) (q := 0) rfl (.mk rfl rfl) rfl rfl ⟨(.mk rfl rfl), rfl⟩ rfl (by omega) (by omega)) ?_
        (refine WL.want rfl (WL1.callN rfl rfl rfl (.cons (.mk (v := .slice _ _ _) rfl rfl) .nil) (fun w hw => hcl w hw.1) ?_); rintro _ _ ⟨Ac, cc, rfl, rfl⟩)
        refine wG rfl rfl (g_assign rfl (.mk (v := .slice _ _ _) rfl rfl)) ?_
        refine WL.nil ?_
        (refine hK _ _ ?_; clear hK)
        refine WC.seq fun K hK => ?_
        refine WC.region rfl ?_
        refine wG rfl rfl (g_move rfl (.mk (v := .slice _ _ _) rfl rfl)) ?_
        refine wG rfl rfl (g_len rfl (.mk rfl rfl) rfl) ?_
        refine wG rfl rfl (g_move rfl (.mk (v := .int _ _) rfl rfl)) ?_
        refine WL.nil ?_
        (refine hK _ _ ?_; clear hK)
        refine WC.block ?_
        refine WC.loopF3 (fun (i : Nat) (F : Option Addr) (fc : Nat) => [(141, iv i), (140, iv T.length), (139, .slice At T.length ct), (19, .slice F 3 fc), (13, .slice At T.length ct), (10, cellPtr (some ⟨b10, 0, none⟩) 0), (0, iv ((N + 3 : Nat) : Int)), (2, .slice B O.length d)]) (fun i F fc => [mp Try.prog 3 b51 l.length (mD l l.length), vec F 3 fc 38 8 (kvs (dltP l O T i)), vec At T.length ct 3 1 (ldv T), pt b10 88 [.map (some b51)]]) (fun i _ _ => i ≤ T.length) (fun i _ _ => T.length - i) 0 Ac cc (by repeat (first | exact trivial | refine ⟨rfl, ?_⟩)) (Imp.pick (by repeat (first | exact .head | apply Take.tail)) (Imp.pick (by repeat (first | exact .head | apply Take.tail)) (Imp.pick (by repeat (first | exact .head | apply Take.tail)) (Imp.pick (by repeat (first | exact .head | apply Take.tail)) (Imp.nil _))))) (by omega) ?_
        intro i F fc U3 hi3
        have hdl := dltP_len l O T hOl i
        by_cases hlt3 : i < T.length
        · have hgt := ldv_get (ld := T) (k := i) hlt3
          have hz13 := hTlt i hlt3
          have hst : upd (dltP l O T i) (nth T i) (nth O i + lstB l (nth T i)) = dltP l O T (i + 1) := rfl
          have gO : ∀ t u, (nth O i).cells[t]? = some u → (kvs O)[i * 8 + t]? = some u := fun t u h => flat_row blk8 (by omega) t u h
          have hat := mD_at l (nth T i : Nat) l.length
          have hll : ((lastC l ((nth T i : Nat) : Int) l.length).getD 0) = lstB l (nth T i) := rfl
          rw [hll] at hat
          have hkz := key_nat (i := nth T i) (by omega)
          obtain ⟨z, hz⟩ : ∃ z, z = nth T i := ⟨_, rfl⟩
          obtain ⟨y, hy⟩ : ∃ y, y = nth O i := ⟨_, rfl⟩
          rw [← hz] at hgt hst hz13 hat hkz
          rw [← hy] at gO hst
          obtain ⟨x, hx⟩ : ∃ x, x = lstB l z := ⟨_, rfl⟩
          rw [← hx] at hat hst
          have hup := fun w v h => update_n v (dltP l O T i) z y x w h hdl (by omega)
          rw [hst, hdl] at hup
          clear hx hy hz hst hll hcl hpt
          refine WC.seq fun K hK => ?_
          refine WC.region rfl ?_
          refine wG rfl rfl (g_lt rfl (.mk rfl rfl) (.mk rfl rfl) (decide_eq_true (by omega))) ?_
          refine WL.nil ?_
          (refine hK _ _ ?_; clear hK)
          refine WC.seq fun K hK => ?_
          refine WC.cond_true (.mk rfl rfl) ?_
          refine WC.skip ?_
          (refine hK _ _ ?_; clear hK)
          refine WC.seq fun K hK => ?_
          refine WC.block ?_
          refine WC.seq fun K hK => ?_
          refine WC.region rfl ?_
          refine wG rfl rfl (g_move rfl (.mk (v := .int _ _) rfl rfl)) ?_
          refine wG rfl rfl (g_indexAddr (sz := 1) rfl (.mk rfl rfl) (.mk rfl rfl) rfl rfl rfl (by omega) (fun w hw => vec_some hw (.tail _ (.tail _ (.head _))) (by omega))) ?_
          refine wG rfl rfl (g_load rfl (.mk rfl rfl) rfl (rd_vec (by repeat (first | exact .head _ | apply List.Mem.tail)) hgt)) ?_
          refine wG rfl rfl (g_assign rfl (.mk (v := .int _ _) rfl rfl)) ?_
          refine wG rfl rfl (g_assign rfl (.mk (v := .int _ _) rfl rfl)) ?_
          refine WL.nil ?_
          (refine hK _ _ ?_; clear hK)
          refine WC.held [mp Try.prog 3 b51 l.length (mD l l.length), vec F 3 fc 38 8 (kvs (dltP l O T i)), vec At T.length ct 3 1 (ldv T), pt b10 88 [.map (some b51)]] rfl (by kernel_rfl) ?_
          refine WH.take 0 rfl (by decide +kernel) (by decide +kernel) (by decide +kernel) rfl rfl (Imp.sub (by first | ((repeat (first | exact List.nil_sublist _ | exact List.Sublist.refl _ | apply List.Sublist.cons_cons | apply List.Sublist.cons)); done) | fail)) (g_move rfl (.mk (v := .slice _ _ _) rfl rfl)) ?_
          refine WH.take 1 rfl (by decide +kernel) (by decide +kernel) (by decide +kernel) rfl rfl (Imp.sub (by first | ((repeat (first | exact List.nil_sublist _ | exact List.Sublist.refl _ | apply List.Sublist.cons_cons | apply List.Sublist.cons)); done) | fail)) (g_move rfl (.mk (v := .int _ _) rfl rfl)) ?_
          refine WH.take 2 rfl (by decide +kernel) (by decide +kernel) (by decide +kernel) rfl rfl (Imp.sub (by first | ((repeat (first | exact List.nil_sublist _ | exact List.Sublist.refl _ | apply List.Sublist.cons_cons | apply List.Sublist.cons)); done) | fail)) (g_move rfl (.mk (v := .slice _ _ _) rfl rfl)) ?_
          refine WH.take 3 rfl (by decide +kernel) (by decide +kernel) (by decide +kernel) rfl rfl (Imp.sub (by first | ((repeat (first | exact List.nil_sublist _ | exact List.Sublist.refl _ | apply List.Sublist.cons_cons | apply List.Sublist.cons)); done) | fail)) (g_move rfl (.mk (v := .int _ _) rfl rfl)) ?_
          refine WH.take 4 rfl (by decide +kernel) (by decide +kernel) (by decide +kernel) rfl rfl (Imp.sub (by first | ((repeat (first | exact List.nil_sublist _ | exact List.Sublist.refl _ | apply List.Sublist.cons_cons | apply List.Sublist.cons)); done) | fail)) (g_indexAddr (sz := 8) rfl (.mk rfl rfl) (.mk rfl rfl) rfl rfl rfl (by omega) (fun _ _ => sl_some hsb (by omega))) ?_
          refine WH.take 5 rfl (by decide +kernel) (by decide +kernel) (by decide +kernel) rfl rfl (Imp.sub (by first | ((repeat (first | exact List.nil_sublist _ | exact List.Sublist.refl _ | apply List.Sublist.cons_cons | apply List.Sublist.cons)); done) | fail)) (g_loadA rfl (.mk rfl rfl) rfl (sz8 _) (rdr_sl (cs := y.cells) hsb (by omega) gO)) ?_
          refine WH.take 6 rfl (by decide +kernel) (by decide +kernel) (by decide +kernel) rfl rfl (Imp.sub (by first | ((repeat (first | exact List.nil_sublist _ | exact List.Sublist.refl _ | apply List.Sublist.cons_cons | apply List.Sublist.cons)); done) | fail)) (g_load rfl (.mk rfl rfl) rfl (rd_pt (.tail _ (.tail _ (.tail _ (.head _)))) rfl)) ?_
          refine WH.take 7 rfl (by decide +kernel) (by decide +kernel) (by decide +kernel) rfl rfl (Imp.sub (by first | ((repeat (first | exact List.nil_sublist _ | exact List.Sublist.refl _ | apply List.Sublist.cons_cons | apply List.Sublist.cons)); done) | fail)) (g_move rfl (.mk (v := .int _ _) rfl rfl)) ?_
          refine WH.take 8 rfl (by decide +kernel) (by decide +kernel) (by decide +kernel) rfl rfl (Imp.sub (by first | ((repeat (first | exact List.nil_sublist _ | exact List.Sublist.refl _ | apply List.Sublist.cons_cons | apply List.Sublist.cons)); done) | fail)) (g_look (z := kv 0) (by repeat (first | exact .head _ | apply List.Mem.tail)) rfl (.mk rfl rfl) (.mk rfl rfl) kI rfl kv_zero hkz hat) ?_
          refine WH.one 9 (by decide +kernel) rfl rfl ?_
          (refine WL1.callN rfl rfl rfl (.cons (.mk (v := .slice _ _ _) rfl rfl) (.cons (.mk (v := .int _ _) rfl rfl) (.cons (.mk (v := .agg _) rfl rfl) (.cons (.mk (v := .agg _) rfl rfl) .nil)))) (fun w hw => hup w _ (Sl.of_vec hw (by repeat (first | exact .head _ | apply List.Mem.tail)))) ?_; rintro _ _ ⟨Au, cu, rfl, rfl⟩)
          refine WL.nil ?_
          refine ⟨(Imp.sub (by first | ((repeat (first | exact List.nil_sublist _ | exact List.Sublist.refl _ | apply List.Sublist.cons_cons | apply List.Sublist.cons)); done) | fail)), ?_⟩
          refine WH.take 10 rfl (by decide +kernel) (by decide +kernel) (by decide +kernel) rfl rfl (Imp.sub (by first | ((repeat (first | exact List.nil_sublist _ | exact List.Sublist.refl _ | apply List.Sublist.cons_cons | apply List.Sublist.cons)); done) | fail)) (g_move rfl (.mk (v := .tuple _) rfl rfl)) ?_
          refine WH.take 11 rfl (by decide +kernel) (by decide +kernel) (by decide +kernel) rfl rfl (Imp.sub (by first | ((repeat (first | exact List.nil_sublist _ | exact List.Sublist.refl _ | apply List.Sublist.cons_cons | apply List.Sublist.cons)); done) | fail)) (g_extract rfl (.mk rfl rfl) rfl) ?_
          refine WH.take 12 rfl (by decide +kernel) (by decide +kernel) (by decide +kernel) rfl rfl (Imp.sub (by first | ((repeat (first | exact List.nil_sublist _ | exact List.Sublist.refl _ | apply List.Sublist.cons_cons | apply List.Sublist.cons)); done) | fail)) (g_extract rfl (.mk rfl rfl) rfl) ?_
          refine WH.take 13 rfl (by decide +kernel) (by decide +kernel) (by decide +kernel) rfl rfl (Imp.sub (by first | ((repeat (first | exact List.nil_sublist _ | exact List.Sublist.refl _ | apply List.Sublist.cons_cons | apply List.Sublist.cons)); done) | fail)) (g_assign rfl (.mk (v := .slice _ _ _) rfl rfl)) ?_
          refine WH.done (by decide +kernel) ?_
          (refine hK _ _ ?_; clear hK)
          refine WC.region rfl ?_
          refine wG rfl rfl (g_add rfl (.mk rfl rfl) (.mk rfl rfl) (IntWalk.i64_in _ (by omega))) ?_
          refine wG rfl rfl (g_move rfl (.mk (v := .int _ _) rfl rfl)) ?_
          refine WL.nil ?_
          exact ⟨i + 1, Au, cu, (by repeat (first | exact trivial | refine ⟨rfl, ?_⟩)), Imp.pick (by repeat (first | exact .head | apply Take.tail)) (Imp.pick (by repeat (first | exact .head | apply Take.tail)) (Imp.pick (by repeat (first | exact .head | apply Take.tail)) (Imp.pick (by repeat (first | exact .head | apply Take.tail)) (Imp.nil _)))), by omega, by omega⟩
        · obtain rfl : i = T.length := by omega
          refine WC.seq fun K hK => ?_
          refine WC.region rfl ?_
          refine wG rfl rfl (g_lt rfl (.mk rfl rfl) (.mk rfl rfl) (decide_eq_false (by omega))) ?_
          refine WL.nil ?_
          (refine hK _ _ ?_; clear hK)
          refine WC.seq fun K hK => ?_
          refine WC.cond_false (.mk rfl rfl) ?_
          refine WC.exit ?_
          exact ⟨(F, fc, dltP l O T T.length), (by repeat (first | exact trivial | refine ⟨rfl, ?_⟩)), Imp.pick (by repeat (first | exact .head | apply Take.tail)) (Imp.pick (by repeat (first | exact .head | apply Take.tail)) (Imp.pick (by repeat (first | exact .head | apply Take.tail)) (Imp.pick (by repeat (first | exact .head | apply Take.tail)) (Imp.nil _)))), hp, hdl⟩
      · have hcmp := hcmp.trans (if_neg hA)
        have hdT : decide (R = ints Dl) = false := decide_eq_false hA
        refine WC.seq fun K hK => ?_
        refine WC.region rfl ?_
        refine wG rfl rfl (g_move rfl (.mk (v := .slice _ _ _) rfl rfl)) ?_
        refine wG rfl rfl (g_move rfl (.mk (v := .slice _ _ _) rfl rfl)) ?_
        refine WL.want rfl (WL1.callP rfl rfl rfl (.cons (.mk (v := .slice _ _ _) rfl rfl) (.cons (.mk (v := .slice _ _ _) rfl rfl) .nil)) (fun w hw => intseq_k rfl rfl hdT (hs.below hw.1) (Sl.of_vec hw (by repeat (first | exact .head _ | apply List.Mem.tail)))) ?_)
        refine wG rfl rfl (g_assign rfl (.mk (v := .bool _) rfl rfl)) ?_
        refine WL.nil ?_
        (refine hK _ _ ?_; clear hK)
        refine WC.cond_false (.mk rfl rfl) ?_
        refine WC.seq fun K hK => ?_
        refine WC.region rfl ?_
        refine wG rfl rfl (g_move rfl (.mk (v := .int _ _) rfl rfl)) ?_
        refine wG rfl rfl (g_sub rfl (.mk rfl rfl) (.mk rfl rfl) hsub) ?_
        refine WL.want rfl (WL1.make elK rfl rfl (.mk rfl rfl) (.mk rfl rfl) rfl rfl (by omega) (by unfold maxLen; omega) (fun b85 => ?_))
        refine wG rfl rfl (g_assign rfl (.mk (v := .slice _ _ _) rfl rfl)) ?_
        refine WL.nil ?_
        (refine hK _ _ ?_; clear hK)
        refine WC.seqF (fun q : Option Addr × Nat × List Blk => [(22, .slice q.1 N q.2.1), (13, .slice At T.length ct), (10, cellPtr (some ⟨b10, 0, none⟩) 0), (0, iv ((N + 3 : Nat) : Int))]) (fun q => [mp Try.prog 3 b51 l.length (mD l l.length), vec q.1 N q.2.1 38 8 (kvs q.2.2), vec At T.length ct 3 1 (ldv T), pt b10 88 [.map (some b51)]]) (fun q => cmpP N R O l = some (enc (datP q.2.2 l l.length)) ∧ q.2.2.length = N) ?_ (fun q U2 hq => ?_)
        rotate_left
        refine WC.seq fun K hK => ?_
        rotate_left
        · by_cases hB : R = ints Rs
          · have hp := (hcmp.trans (if_pos hB))
            have hdR : decide (R = ints Rs) = true := decide_eq_true hB
            have hnat : nats R = Rs := by rw [hB, nats_ints]
            have hRlen : R.length = Rs.length := by rw [hB, ints_len]
            have hz1 := zeros_made N
            have hr0 : kvs (List.replicate N 0) = kvs (rsP N O Rs 0) := rfl
            rw [hr0] at hz1
            rw [hnat, hRlen] at hp
            clear hcmp
            rw [hz1]
            refine WC.seq fun K hK => ?_
            refine WC.region rfl ?_
            refine wG rfl rfl (g_move rfl (.mk (v := .slice _ _ _) rfl rfl)) ?_
            refine wG rfl rfl (g_move rfl (.mk (v := .slice _ _ _) rfl rfl)) ?_
            refine WL.want rfl (WL1.callP rfl rfl rfl (.cons (.mk (v := .slice _ _ _) rfl rfl) (.cons (.mk (v := .slice _ _ _) rfl rfl) .nil)) (fun w hw => intseq_k rfl rfl hdR (hs.below hw.1) (Sl.of_vec hw (by repeat (first | exact .head _ | apply List.Mem.tail)))) ?_)
            refine WL.nil ?_
            (refine hK _ _ ?_; clear hK)
            refine WC.cond_true (.mk rfl rfl) ?_
            refine WC.seq fun K hK => ?_
            refine WC.region rfl ?_
            refine wG rfl rfl (g_move rfl (.mk (v := .slice _ _ _) rfl rfl)) ?_
            refine wG rfl rfl (g_len rfl (.mk rfl rfl) rfl) ?_
            refine wG rfl rfl (g_move rfl (.mk (v := .int _ _) rfl rfl)) ?_
            refine WL.nil ?_
            (refine hK _ _ ?_; clear hK)
            refine WC.block ?_
            refine WC.loopF (fun i : Nat => [(91, iv i), (90, iv Rs.length), (89, .slice Ar Rs.length cr), (22, .slice (some ⟨b85, 0, none⟩) N N), (13, .slice At T.length ct), (10, cellPtr (some ⟨b10, 0, none⟩) 0), (0, iv ((N + 3 : Nat) : Int)), (2, .slice B O.length d)]) (fun i => [mp Try.prog 3 b51 l.length (mD l l.length), vec (some ⟨b85, 0, none⟩) N N 38 8 (kvs (rsP N O Rs i)), vec Ar Rs.length cr 3 1 (ldv Rs), vec At T.length ct 3 1 (ldv T), pt b10 88 [.map (some b51)]]) (fun i => i ≤ Rs.length) (fun i => Rs.length - i) 0 (by repeat (first | exact trivial | refine ⟨rfl, ?_⟩)) (Imp.pick (by repeat (first | exact .head | apply Take.tail)) (Imp.pick (by repeat (first | exact .head | apply Take.tail)) (Imp.pick (by repeat (first | exact .head | apply Take.tail)) (Imp.pick (by repeat (first | exact .head | apply Take.tail)) (Imp.pick (by repeat (first | exact .head | apply Take.tail)) (Imp.nil _)))))) (by omega) ?_
            intro i U3 hi3
            by_cases hlt3 : i < Rs.length
            · have hgv := ldv_get (ld := Rs) (k := i) hlt3
              have hzn := hRsN i hlt3
              have hrl := rsP_len N O Rs i
              have hlk : (kvs (rsP N O Rs i)).length = N * 8 := by rw [kvs_len, rsP_len]
              have gO : ∀ t u, (nth O i).cells[t]? = some u → (kvs O)[i * 8 + t]? = some u := fun t u h => flat_row blk8 (by omega) t u h
              have hs1 : (rsP N O Rs i).set (nth Rs i) (nth O i) = rsP N O Rs (i + 1) := rfl
              obtain ⟨z, hz⟩ : ∃ z, z = nth Rs i := ⟨_, rfl⟩
              obtain ⟨y, hy⟩ : ∃ y, y = nth O i := ⟨_, rfl⟩
              rw [← hz] at hgv hzn hs1
              rw [← hy] at gO hs1
              have hsp : spl (kvs (rsP N O Rs i)) (z * 8) y.cells = kvs (rsP N O Rs (i + 1)) := by rw [kvs_put (l := rsP N O Rs i) (k := z) (b := y) (by omega) rfl rfl, hs1]
              have hy8 := Blk.len y
              clear hy hz hs1
              refine WC.seq fun K hK => ?_
              refine WC.region rfl ?_
              refine wG rfl rfl (g_lt rfl (.mk rfl rfl) (.mk rfl rfl) (decide_eq_true (by omega))) ?_
              refine WL.nil ?_
              (refine hK _ _ ?_; clear hK)
              refine WC.seq fun K hK => ?_
              refine WC.cond_true (.mk rfl rfl) ?_
              refine WC.skip ?_
              (refine hK _ _ ?_; clear hK)
              refine WC.seq fun K hK => ?_
              refine WC.block ?_
              refine WC.seq fun K hK => ?_
              refine WC.region rfl ?_
              refine wG rfl rfl (g_move rfl (.mk (v := .int _ _) rfl rfl)) ?_
              refine wG rfl rfl (g_indexAddr (sz := 1) rfl (.mk rfl rfl) (.mk rfl rfl) rfl rfl rfl (by omega) (fun w hw => vec_some hw (.tail _ (.tail _ (.head _))) (by omega))) ?_
              refine wG rfl rfl (g_load rfl (.mk rfl rfl) rfl (rd_vec (by repeat (first | exact .head _ | apply List.Mem.tail)) hgv)) ?_
              refine wG rfl rfl (g_assign rfl (.mk (v := .int _ _) rfl rfl)) ?_
              refine wG rfl rfl (g_assign rfl (.mk (v := .int _ _) rfl rfl)) ?_
              refine WL.nil ?_
              (refine hK _ _ ?_; clear hK)
              refine WC.region rfl ?_
              refine wG rfl rfl (g_move rfl (.mk (v := .slice _ _ _) rfl rfl)) ?_
              refine wG rfl rfl (g_move rfl (.mk (v := .int _ _) rfl rfl)) ?_
              refine wG rfl rfl (g_move rfl (.mk (v := .slice _ _ _) rfl rfl)) ?_
              refine wG rfl rfl (g_move rfl (.mk (v := .int _ _) rfl rfl)) ?_
              refine wG rfl rfl (g_indexAddr (sz := 8) rfl (.mk rfl rfl) (.mk rfl rfl) rfl rfl rfl (by omega) (fun _ _ => sl_some hsb (by omega))) ?_
              refine wG rfl rfl (g_loadA rfl (.mk rfl rfl) rfl (sz8 _) (rdr_sl (cs := y.cells) hsb (by omega) gO)) ?_
              refine wG rfl rfl (g_indexAddr (sz := 8) rfl (.mk rfl rfl) (.mk rfl rfl) rfl rfl rfl (by omega) (fun _ _ => rfl)) ?_
              refine WL.want rfl (WL1.storeVA rfl rfl (.mk rfl rfl) (.mk rfl rfl) (sz8 _) (Blk.one _) (by first | decide | omega | exact Nat.le_of_ble_eq_true rfl | (simp; done) | (simp; omega) | (rw [Blk.len]; omega)) (by first | omega | (rw [Blk.len]; omega) | (simp; done) | (simp; omega)) (.tail (.head)) ?_)
              refine WL.nil ?_
              (refine hK _ _ ?_; clear hK)
              refine WC.region rfl ?_
              refine wG rfl rfl (g_add rfl (.mk rfl rfl) (.mk rfl rfl) (IntWalk.i64_in _ (by omega))) ?_
              refine wG rfl rfl (g_move rfl (.mk (v := .int _ _) rfl rfl)) ?_
              refine WL.nil ?_
              exact ⟨i + 1, (by repeat (first | exact trivial | refine ⟨rfl, ?_⟩)), by rw [← hsp]; exact Imp.pick (by repeat (first | exact .head | apply Take.tail)) (Imp.pick (by repeat (first | exact .head | apply Take.tail)) (Imp.pick (by repeat (first | exact .head | apply Take.tail)) (Imp.pick (by repeat (first | exact .head | apply Take.tail)) (Imp.pick (by repeat (first | exact .head | apply Take.tail)) (Imp.nil _))))), by omega, by omega⟩
            · obtain rfl : i = Rs.length := by omega
              refine WC.seq fun K hK => ?_
              refine WC.region rfl ?_
              refine wG rfl rfl (g_lt rfl (.mk rfl rfl) (.mk rfl rfl) (decide_eq_false (by omega))) ?_
              refine WL.nil ?_
              (refine hK _ _ ?_; clear hK)
              refine WC.seq fun K hK => ?_
              refine WC.cond_false (.mk rfl rfl) ?_
              refine WC.exit ?_
              exact ⟨(some ⟨b85, 0, none⟩, N, rsP N O Rs Rs.length), (by repeat (first | exact trivial | refine ⟨rfl, ?_⟩)), Imp.pick (by repeat (first | exact .head | apply Take.tail)) (Imp.pick (by repeat (first | exact .head | apply Take.tail)) (Imp.pick (by repeat (first | exact .head | apply Take.tail)) (Imp.pick (by repeat (first | exact .head | apply Take.tail)) (Imp.nil _)))), hp, rsP_len N O Rs Rs.length⟩
          · have hcmp := hcmp.trans (if_neg hB)
            have hdR : decide (R = ints Rs) = false := decide_eq_false hB
            by_cases hok : R.length = N ∧ ∀ i, i < N → okR (N + 3) R i
            · have hp := hcmp.trans (if_pos hok)
              have hfr := fun w' hb => gfrom_n (w := w') hN1 hN2 hRO hok.1 hok.2 (hs.below hb) (hsb.below hb)
              clear hcmp
              refine WC.seq fun K hK => ?_
              refine WC.region rfl ?_
              refine wG rfl rfl (g_move rfl (.mk (v := .slice _ _ _) rfl rfl)) ?_
              refine wG rfl rfl (g_move rfl (.mk (v := .slice _ _ _) rfl rfl)) ?_
              refine WL.want rfl (WL1.callP rfl rfl rfl (.cons (.mk (v := .slice _ _ _) rfl rfl) (.cons (.mk (v := .slice _ _ _) rfl rfl) .nil)) (fun w hw => intseq_k rfl rfl hdR (hs.below hw.1) (Sl.of_vec hw (by repeat (first | exact .head _ | apply List.Mem.tail)))) ?_)
              refine WL.nil ?_
              (refine hK _ _ ?_; clear hK)
              refine WC.cond_false (.mk rfl rfl) ?_
              refine WC.seq fun K hK => ?_
              refine WC.region rfl ?_
              refine wG rfl rfl (g_move rfl (.mk (v := .int _ _) rfl rfl)) ?_
              refine wG rfl rfl (g_move rfl (.mk (v := .slice _ _ _) rfl rfl)) ?_
              refine wG rfl rfl (g_move rfl (.mk (v := .slice _ _ _) rfl rfl)) ?_
              (refine WL.want rfl (WL1.callN rfl rfl rfl (.cons (.mk (v := .int _ _) rfl rfl) (.cons (.mk (v := .slice _ _ _) rfl rfl) (.cons (.mk (v := .slice _ _ _) rfl rfl) .nil))) (fun w hw => hfr w hw.1) ?_); rintro _ _ ⟨Af, cf, rfl, rfl⟩)
              refine wG rfl rfl (g_move rfl (.mk (v := .tuple _) rfl rfl)) ?_
              refine wG rfl rfl (g_extract rfl (.mk rfl rfl) rfl) ?_
              refine wG rfl rfl (g_extract rfl (.mk rfl rfl) rfl) ?_
              refine wG rfl rfl (g_assign rfl (.mk (v := .slice _ _ _) rfl rfl)) ?_
              refine wG rfl rfl (g_assign rfl (.mk (v := .bool _) rfl rfl)) ?_
              refine WL.nil ?_
              (refine hK _ _ ?_; clear hK)
              refine WC.seq fun K hK => ?_
              refine WC.seq fun K hK => ?_
              refine WC.region rfl ?_
              refine wG rfl rfl (g_move rfl (.mk (v := .bool _) rfl rfl)) ?_
              refine wG rfl rfl (g_notT rfl (.mk rfl rfl)) ?_
              refine WL.nil ?_
              (refine hK _ _ ?_; clear hK)
              refine WC.cond_false (.mk rfl rfl) ?_
              refine WC.skip ?_
              (refine hK _ _ ?_; clear hK)
              refine WC.region rfl ?_
              refine wG rfl rfl (g_move rfl (.mk (v := .slice _ _ _) rfl rfl)) ?_
              refine wG rfl rfl (g_assign rfl (.mk (v := .slice _ _ _) rfl rfl)) ?_
              refine WL.nil ?_
              exact ⟨(Af, cf, frD N O R), (by repeat (first | exact trivial | refine ⟨rfl, ?_⟩)), Imp.pick (by repeat (first | exact .head | apply Take.tail)) (Imp.pick (by repeat (first | exact .head | apply Take.tail)) (Imp.pick (by repeat (first | exact .head | apply Take.tail)) (Imp.pick (by repeat (first | exact .head | apply Take.tail)) (Imp.nil _)))), hp, frD_len N O R⟩
            · have hno := hcmp.trans (if_neg hok)
              have hfr := fun w' hb => gfrom_bad (w := w') hN1 hN2 hRO hok hR40 (hs.below hb) (hsb.below hb)
              clear hcmp
              refine WC.seq fun K hK => ?_
              refine WC.region rfl ?_
              refine wG rfl rfl (g_move rfl (.mk (v := .slice _ _ _) rfl rfl)) ?_
              refine wG rfl rfl (g_move rfl (.mk (v := .slice _ _ _) rfl rfl)) ?_
              refine WL.want rfl (WL1.callP rfl rfl rfl (.cons (.mk (v := .slice _ _ _) rfl rfl) (.cons (.mk (v := .slice _ _ _) rfl rfl) .nil)) (fun w hw => intseq_k rfl rfl hdR (hs.below hw.1) (Sl.of_vec hw (by repeat (first | exact .head _ | apply List.Mem.tail)))) ?_)
              refine WL.nil ?_
              (refine hK _ _ ?_; clear hK)
              refine WC.cond_false (.mk rfl rfl) ?_
              refine WC.seq fun K hK => ?_
              refine WC.region rfl ?_
              refine wG rfl rfl (g_move rfl (.mk (v := .int _ _) rfl rfl)) ?_
              refine wG rfl rfl (g_move rfl (.mk (v := .slice _ _ _) rfl rfl)) ?_
              refine wG rfl rfl (g_move rfl (.mk (v := .slice _ _ _) rfl rfl)) ?_
              refine WL.want rfl (WL1.callP rfl rfl rfl (.cons (.mk (v := .int _ _) rfl rfl) (.cons (.mk (v := .slice _ _ _) rfl rfl) (.cons (.mk (v := .slice _ _ _) rfl rfl) .nil))) (fun w hw => hfr w hw.1) ?_)
              refine wG rfl rfl (g_move rfl (.mk (v := .tuple _) rfl rfl)) ?_
              refine wG rfl rfl (g_extract rfl (.mk rfl rfl) rfl) ?_
              refine wG rfl rfl (g_extract rfl (.mk rfl rfl) rfl) ?_
              refine wG rfl rfl (g_assign rfl (.mk (v := .slice _ _ _) rfl rfl)) ?_
              refine wG rfl rfl (g_assign rfl (.mk (v := .bool _) rfl rfl)) ?_
              refine WL.nil ?_
              (refine hK _ _ ?_; clear hK)
              refine WC.seq fun K hK => ?_
              refine WC.seq fun K hK => ?_
              refine WC.region rfl ?_
              refine wG rfl rfl (g_move rfl (.mk (v := .bool _) rfl rfl)) ?_
              refine wG rfl rfl (g_notF rfl (.mk rfl rfl)) ?_
              refine WL.nil ?_
              (refine hK _ _ ?_; clear hK)
              refine WC.cond_true (.mk rfl rfl) ?_
              refine WC.seq fun K hK => ?_
              refine WC.region rfl ?_
              refine wG rfl rfl (g_assign rfl (.mk (v := .slice _ _ _) rfl rfl)) ?_
              refine wG rfl rfl (g_assign rfl (.mk (v := .int _ _) rfl rfl)) ?_
              refine WL.nil ?_
              (refine hK _ _ ?_; clear hK)
              refine WC.ret ?_
              exact fun w' hw' => ⟨_, _, rfl, hw', .inr ⟨hno, rfl⟩⟩
        · obtain ⟨Af, cf, Df⟩ := q
          obtain ⟨hp, hDf⟩ := hq
          dsimp only at hp hDf ⊢
          have hm0 : mxD l Df (Maps.has (mD l l.length)) = Df := mxD_start
          clear hcmp hRsN hs hsb
          refine WC.seq fun K hK => ?_
          refine WC.region rfl ?_
          refine wG rfl rfl (g_load rfl (.mk rfl rfl) rfl (rd_pt (.tail _ (.tail _ (.tail _ (.head _)))) rfl)) ?_
          refine WL.want rfl (WL1.range rfl rfl (.mk rfl rfl) kI rfl (fun r115 => ?_))
          refine WL.nil ?_
          (refine hK _ _ ?_; clear hK)
          refine WC.block ?_
          refine WC.loopF2 (fun (left : Lit → Bool) (cnt : Nat) => [(115, .pointer (some ⟨r115, 0, none⟩)), (22, .slice Af N cf), (13, .slice At T.length ct), (10, cellPtr (some ⟨b10, 0, none⟩) 0), (0, iv ((N + 3 : Nat) : Int))]) (fun left cnt => [rgA Try.prog 3 b51 r115 l.length (mD l l.length) left cnt, vec Af N cf 38 8 (kvs (mxD l Df left)), vec At T.length ct 3 1 (ldv T), pt b10 88 [.map (some b51)]]) (fun left _ => ∀ kl, left kl = true → Maps.has (mD l l.length) kl = true) (fun _ cnt => cnt) (Maps.has (mD l l.length)) (Maps.size (mD l l.length)) (by repeat (first | exact trivial | refine ⟨rfl, ?_⟩)) (by rw [hm0]; exact .refl _) (fun _ h => h) ?_
          intro left cnt U3 hpre
          have hml : (mxD l Df left).length = N := by rw [mxD_len, hDf]
          have hmk : (kvs (mxD l Df left)).length = N * 8 := by rw [kvs_len, hml]
          have hen : ∀ (v : Value) (w' : World), Sl w' 8 v N (kvs (mxD l Df left)) → Calls Try.prog 54 #[v] w' fun e w2 => ∃ v' M, e = .returned v' ∧ H w' M w2 ∧ ∃ b, v' = .tuple #[.slice (some ⟨b, 0, none⟩) 3 3, iv 0] ∧ M = [vec (some ⟨b, 0, none⟩) 3 3 38 8 (kvs (enc (mxD l Df left)))] := fun v w' h => encode_n v (mxD l Df left) w' (by rw [hml]; exact h) (by omega) (by omega)
          refine WC.seq fun K hK => ?_
          refine WC.region rfl ?_
          refine WL.want rfl (WL1.next rfl rfl (.mk rfl rfl) kI (fun h0 hle => ?_) (fun key v kl cnt2 hkey hlk hat hlt => ?_))
          refine wG rfl rfl (g_extract rfl (.mk rfl rfl) rfl) ?_
          refine WL.nil ?_
          (refine hK _ _ ?_; clear hK)
          refine WC.seq fun K hK => ?_
          refine WC.cond_false (.mk rfl rfl) ?_
          refine WC.exit ?_
          (clear hK; refine hK _ _ ?_; clear hK)
          refine WC.region rfl ?_
          refine wG rfl rfl (g_move rfl (.mk (v := .slice _ _ _) rfl rfl)) ?_
          (refine WL.want rfl (WL1.callN rfl rfl rfl (.cons (.mk (v := .slice _ _ _) rfl rfl) .nil) (fun w hw => hen _ w (Sl.of_vec hw (by repeat (first | exact .head _ | apply List.Mem.tail)))) ?_); rintro _ _ ⟨bq, rfl, rfl⟩)
          refine wG rfl rfl (g_move rfl (.mk (v := .tuple _) rfl rfl)) ?_
          refine wG rfl rfl (g_extract rfl (.mk rfl rfl) rfl) ?_
          refine wG rfl rfl (g_extract rfl (.mk rfl rfl) rfl) ?_
          refine wG rfl rfl (g_assign rfl (.mk (v := .slice _ _ _) rfl rfl)) ?_
          refine WL.nil ?_
          rotate_left
          refine wG rfl rfl (g_extract rfl (.mk rfl rfl) rfl) ?_
          refine WL.nil ?_
          (refine hK _ _ ?_; clear hK)
          refine WC.seq fun K hK => ?_
          refine WC.cond_true (.mk rfl rfl) ?_
          refine WC.skip ?_
          (refine hK _ _ ?_; clear hK)
          refine WC.block ?_
          rotate_left
          · exact ⟨(some ⟨bq, 0, none⟩, 3, enc (mxD l Df left)), (by repeat (first | exact trivial | refine ⟨rfl, ?_⟩)), Imp.rgT (by repeat (first | exact .head | apply Take.tail)) (Imp.pick (by repeat (first | exact .head | apply Take.tail)) (Imp.pick (by repeat (first | exact .head | apply Take.tail)) (Imp.pick (by repeat (first | exact .head | apply Take.tail)) (Imp.nil _)))), by rw [mxD_end (by rw [hDf]; exact ho) hle]; exact hp, enc3 _⟩
          · obtain ⟨x, rfl, rfl, hwf⟩ := Maps.keyOf_int_inv (q := .i64) (by kernel_rfl) hkey
            have hh := hpre _ hlk
            rw [mD_has] at hh
            obtain ⟨k0, hk0, hs0⟩ := lastC_some hh
            have hq0 := okC_each ho hk0
            obtain ⟨z, rfl⟩ : ∃ z : Nat, x = z := ⟨x.toNat, by omega⟩
            have hzN : z < N := by omega
            have h2 := hat (.held (kv 0))
            rw [mD_at] at h2
            obtain rfl : v = kv (lstB l z) := by
              injection h2 with h2
              exact h2.symm
            have hs1 := mxD_step (ds := Df) (left := left) hh (by omega)
            obtain ⟨left2, hl2⟩ : ∃ left2 : Lit → Bool, left2 = fun x => left x && !x.sameKey (.int .i64 (z : Int)) := ⟨_, rfl⟩
            have hpre2 : ∀ kl, left2 kl = true → Maps.has (mD l l.length) kl = true := fun kl h => hpre kl (by rw [hl2, Bool.and_eq_true] at h; exact h.1)
            rw [← hl2] at hs1 ⊢
            obtain ⟨y, hy⟩ : ∃ y, y = lstB l z := ⟨_, rfl⟩
            rw [← hy] at hs1 ⊢
            have hsp : spl (kvs (mxD l Df left)) (z * 8) y.cells = kvs (mxD l Df left2) := by rw [kvs_put (l := mxD l Df left) (k := z) (b := y) (by omega) rfl rfl, hs1]
            have hy8 := Blk.len y
            have gy : ∀ j u, y.cells[j]? = some u → y.cells[0 + (0 + j)]? = some u := fun j u h => by rw [Nat.zero_add, Nat.zero_add]; exact h
            clear hs1 hy hl2 h2 hs0 hh hlk hat hwf hkey hpre hen hq0 hk0
            refine WC.seq fun K hK => ?_
            refine WC.region rfl ?_
            refine wG rfl rfl (g_entry (by repeat (first | exact .head _ | apply List.Mem.tail)) rfl (.mk rfl rfl)) ?_
            refine wG rfl rfl (g_extract rfl (.mk rfl rfl) rfl) ?_
            refine wG rfl rfl (g_extract rfl (.mk rfl rfl) rfl) ?_
            refine WL.want rfl (WL1.alloc rfl rfl rfl rfl (fun b28 => ?_))
            refine wG rfl rfl (g_assign rfl (.mk (v := .int _ _) rfl rfl)) ?_
            refine WL.want rfl (WL1.storeAll rfl rfl (.mk rfl rfl) (.mk rfl rfl) (sz8 _) y.one (by rw [Blk.len]; rfl) .head ?_)
            refine WL.nil ?_
            (refine hK _ _ ?_; clear hK)
            refine WC.region rfl ?_
            refine wG rfl rfl (g_move rfl (.mk (v := .slice _ _ _) rfl rfl)) ?_
            refine wG rfl rfl (g_move rfl (.mk (v := .int _ _) rfl rfl)) ?_
            refine wG rfl rfl (g_loadA rfl (.mk rfl rfl) rfl (sz8 _) (rdr_pt (cs := y.cells) (by repeat (first | exact .head _ | apply List.Mem.tail)) gy)) ?_
            refine wG rfl rfl (g_indexAddr (sz := 8) rfl (.mk rfl rfl) (.mk rfl rfl) rfl rfl rfl (by omega) (fun w hw => vec_some hw (.tail _ (.tail _ (.head _))) (by omega))) ?_
            refine WL.want rfl (WL1.storeVA rfl rfl (.mk rfl rfl) (.mk rfl rfl) (sz8 _) (Blk.one _) (by first | decide | omega | exact Nat.le_of_ble_eq_true rfl | (simp; done) | (simp; omega) | (rw [Blk.len]; omega)) (by first | omega | (rw [Blk.len]; omega) | (simp; done) | (simp; omega)) (.tail (.tail (.head))) ?_)
            refine WL.nil ?_
            exact ⟨left2, cnt2, (by repeat (first | exact trivial | refine ⟨rfl, ?_⟩)), by rw [← hsp]; exact Imp.rgU (by repeat (first | exact .head | apply Take.tail)) (Imp.pick (by repeat (first | exact .head | apply Take.tail)) (Imp.pick (by repeat (first | exact .head | apply Take.tail)) (Imp.pick (by repeat (first | exact .head | apply Take.tail)) (Imp.nil _)))), hpre2, hlt⟩
    · obtain ⟨Ap, cp, p⟩ := q
      obtain ⟨hp, hp3⟩ := hq
      dsimp only at hp hp3 ⊢
      have hrl := resL_len l T N p
      clear hnum hdel hrst hval hch hmade hcmp hRsN hs hsb hsl
      refine WC.nilvec 70 9 ?_
      refine WC.loopF3 (fun (i : Nat) (F : Option Addr) (fc : Nat) => [(162, iv i), (161, iv T.length), (160, .slice At T.length ct), (29, .slice F i fc), (19, .slice Ap 3 cp), (10, cellPtr (some ⟨b10, 0, none⟩) 0), (0, iv ((N + 3 : Nat) : Int))]) (fun i F fc => [mp Try.prog 3 b51 l.length (mD l l.length), vec F i fc 70 9 (cvs ((resL l T N p).take i)), vec Ap 3 cp 38 8 (kvs p), vec At T.length ct 3 1 (ldv T), pt b10 88 [.map (some b51)]]) (fun i _ _ => i ≤ T.length) (fun i _ _ => T.length - i) 0 none 0 (by repeat (first | exact trivial | refine ⟨rfl, ?_⟩)) (Imp.pick (A := mp Try.prog 3 b51 l.length (mD l l.length)) (by repeat (first | exact .head | apply Take.tail)) (Imp.pick (A := vec none 0 0 70 9 []) (by repeat (first | exact .head | apply Take.tail)) (Imp.pick (by repeat (first | exact .head | apply Take.tail)) (Imp.pick (by repeat (first | exact .head | apply Take.tail)) (Imp.pick (by repeat (first | exact .head | apply Take.tail)) (Imp.nil _)))))) (by omega) ?_
      intro i F fc U3 hi3
      by_cases hlt3 : i < T.length
      · have hgt := ldv_get (ld := T) (k := i) hlt3
        have hz13 := hTlt i hlt3
        have hnx : cvs ((resL l T N p).take i) ++ Chg.cells ⟨(nth T i : Nat), lstB l (nth T i)⟩ = cvs ((resL l T N p).take (i + 1)) := by rw [cvs_snoc, ← resL_lo (N := N) (p := p) hlt3, take_snoc (by omega)]
        have hat := mD_at l (nth T i : Nat) l.length
        have hll : ((lastC l ((nth T i : Nat) : Int) l.length).getD 0) = lstB l (nth T i) := rfl
        rw [hll] at hat
        have hkz := key_nat (i := nth T i) (by omega)
        obtain ⟨z, hz⟩ : ∃ z, z = nth T i := ⟨_, rfl⟩
        rw [← hz] at hgt hz13 hat hkz hnx
        obtain ⟨y, hy⟩ : ∃ y, y = lstB l z := ⟨_, rfl⟩
        rw [← hy] at hat hnx
        clear hz hy hll
        refine WC.seq fun K hK => ?_
        refine WC.region rfl ?_
        refine wG rfl rfl (g_lt rfl (.mk rfl rfl) (.mk rfl rfl) (decide_eq_true (by omega))) ?_
        refine WL.nil ?_
        (refine hK _ _ ?_; clear hK)
        refine WC.seq fun K hK => ?_
        refine WC.cond_true (.mk rfl rfl) ?_
        refine WC.skip ?_
        (refine hK _ _ ?_; clear hK)
        refine WC.seq fun K hK => ?_
        refine WC.block ?_
        refine WC.seq fun K hK => ?_
        refine WC.region rfl ?_
        refine wG rfl rfl (g_indexAddr (sz := 1) rfl (.mk rfl rfl) (.mk rfl rfl) rfl rfl rfl (by omega) (fun w hw => vec_some hw (.tail _ (.tail _ (.tail _ (.head _)))) (by omega))) ?_
        refine wG rfl rfl (g_load rfl (.mk rfl rfl) rfl (rd_vec (by repeat (first | exact .head _ | apply List.Mem.tail)) hgt)) ?_
        refine wG rfl rfl (g_assign rfl (.mk (v := .int _ _) rfl rfl)) ?_
        refine WL.nil ?_
        (refine hK _ _ ?_; clear hK)
        refine WC.region rfl ?_
        refine wG rfl rfl (g_move rfl (.mk (v := .slice _ _ _) rfl rfl)) ?_
        refine wG rfl rfl (g_move rfl (.mk (v := .int _ _) rfl rfl)) ?_
        refine wG rfl rfl (g_load rfl (.mk rfl rfl) rfl (rd_pt (.tail _ (.tail _ (.tail _ (.tail _ (.head _))))) rfl)) ?_
        refine wG rfl rfl (g_move rfl (.mk (v := .int _ _) rfl rfl)) ?_
        refine wG rfl rfl (g_look (z := kv 0) (by repeat (first | exact .head _ | apply List.Mem.tail)) rfl (.mk rfl rfl) (.mk rfl rfl) kI rfl kv_zero hkz hat) ?_
        refine wG rfl rfl (g_buildS (us := [(0, [_]), (1, y.cells)]) (cs := Chg.cells ⟨(z : Nat), y⟩) rfl rfl rfl rfl (.cons (.mk (v := .int _ _) rfl rfl) (.cons (.mk (v := .agg _) rfl rfl) .nil)) rfl (fun p hp => by simp only [List.mem_cons, List.not_mem_nil, or_false] at hp; rcases hp with rfl | rfl <;> exact ⟨_, _, rfl, by first | rfl | exact Blk.len _, Nat.le_of_ble_eq_true rfl⟩) (chg_spls' _ _)) ?_
        refine WL.want rfl (WL1.lit elC rfl rfl rfl (.cons (.mk (v := .agg _) rfl rfl) .nil) rfl (by intro v hv; rw [List.mem_singleton] at hv; subst hv; show (Chg.cells _).toArray.size = 9; rw [List.size_toArray, Chg.len]) (List.append_nil _) rfl (fun b172 => ?_))
        refine WL.want rfl (WL1.append elC rfl rfl (.mk rfl rfl) (.mk rfl rfl) (.tail (.tail (.head))) (fun w hw => Sl.of_vec hw (.head _)) (Chg.one _) (by unfold maxLen; omega) (by omega) (fun A173 c173 => ?_))
        refine wG rfl rfl (g_assign rfl (.mk (v := .slice _ _ _) rfl rfl)) ?_
        refine WL.nil ?_
        (refine hK _ _ ?_; clear hK)
        refine WC.region rfl ?_
        refine wG rfl rfl (g_add rfl (.mk rfl rfl) (.mk rfl rfl) (IntWalk.i64_in _ (by omega))) ?_
        refine wG rfl rfl (g_move rfl (.mk (v := .int _ _) rfl rfl)) ?_
        refine WL.nil ?_
        exact ⟨i + 1, A173, c173, (by repeat (first | exact trivial | refine ⟨rfl, ?_⟩)), by rw [← hnx]; exact Imp.pick (by repeat (first | exact .head | apply Take.tail)) (Imp.pick (by repeat (first | exact .head | apply Take.tail)) (Imp.pick (by repeat (first | exact .head | apply Take.tail)) (Imp.pick (by repeat (first | exact .head | apply Take.tail)) (Imp.pick (by repeat (first | exact .head | apply Take.tail)) (Imp.nil _))))), by omega, by omega⟩
      · obtain rfl : i = T.length := by omega
        refine WC.seq fun K hK => ?_
        refine WC.region rfl ?_
        refine wG rfl rfl (g_lt rfl (.mk rfl rfl) (.mk rfl rfl) (decide_eq_false (by omega))) ?_
        refine WL.nil ?_
        (refine hK _ _ ?_; clear hK)
        refine WC.seq fun K hK => ?_
        refine WC.cond_false (.mk rfl rfl) ?_
        refine WC.exit ?_
        (clear hK; refine hK _ _ ?_; clear hK)
        refine WC.seq fun K hK => ?_
        refine WC.seq fun K hK => ?_
        refine WC.region rfl ?_
        refine wG rfl rfl (g_move rfl (.mk (v := .slice _ _ _) rfl rfl)) ?_
        refine wG rfl rfl (g_len rfl (.mk rfl rfl) rfl) ?_
        refine wG rfl rfl (g_move rfl (.mk (v := .int _ _) rfl rfl)) ?_
        refine WL.nil ?_
        (refine hK _ _ ?_; clear hK)
        refine WC.block ?_
        refine WC.loopF3 (fun (j : Nat) (F : Option Addr) (fc : Nat) => [(177, iv j), (176, iv 3), (175, .slice Ap 3 cp), (29, .slice F (T.length + j) fc), (0, iv ((N + 3 : Nat) : Int))]) (fun j F fc => [vec F (T.length + j) fc 70 9 (cvs ((resL l T N p).take (T.length + j))), vec Ap 3 cp 38 8 (kvs p)]) (fun j _ _ => j ≤ 3) (fun j _ _ => 3 - j) 0 F fc (by repeat (first | exact trivial | refine ⟨rfl, ?_⟩)) (Imp.pick (by repeat (first | exact .head | apply Take.tail)) (Imp.pick (by repeat (first | exact .head | apply Take.tail)) (Imp.nil _))) (by omega) ?_
        intro j F2 fc2 U4 hj
        by_cases hltj : j < 3
        · have hadd : IntKind.i64.wrap ((N : Int) + (j : Int)) = ((N + j : Nat) : Int) := by rw [IntWalk.i64_in _ (by omega)]; omega
          have hnx : cvs ((resL l T N p).take (T.length + j)) ++ Chg.cells ⟨((N + j : Nat) : Int), nth p j⟩ = cvs ((resL l T N p).take (T.length + (j + 1))) := by rw [cvs_snoc, ← resL_hi (l := l) (T := T) hltj, ← Nat.add_assoc, take_snoc (by omega)]
          have gb : ∀ t u, (nth p j).cells[t]? = some u → (kvs p)[j * 8 + t]? = some u := fun t u h => flat_row blk8 (by omega) t u h
          obtain ⟨y, hy⟩ : ∃ y, y = nth p j := ⟨_, rfl⟩
          rw [← hy] at hnx gb
          have gy : ∀ j u, y.cells[j]? = some u → y.cells[0 + (0 + j)]? = some u := fun j u h => by rw [Nat.zero_add, Nat.zero_add]; exact h
          clear hy
          refine WC.seq fun K hK => ?_
          refine WC.region rfl ?_
          refine wG rfl rfl (g_lt rfl (.mk rfl rfl) (.mk rfl rfl) (decide_eq_true (by omega))) ?_
          refine WL.nil ?_
          (refine hK _ _ ?_; clear hK)
          refine WC.seq fun K hK => ?_
          refine WC.cond_true (.mk rfl rfl) ?_
          refine WC.skip ?_
          (refine hK _ _ ?_; clear hK)
          refine WC.seq fun K hK => ?_
          refine WC.block ?_
          refine WC.seq fun K hK => ?_
          refine WC.region rfl ?_
          refine wG rfl rfl (g_move rfl (.mk (v := .int _ _) rfl rfl)) ?_
          refine wG rfl rfl (g_indexAddr (sz := 8) rfl (.mk rfl rfl) (.mk rfl rfl) rfl rfl rfl (by omega) (fun w hw => vec_some hw (.tail _ (.head _)) (by omega))) ?_
          refine wG rfl rfl (g_loadA rfl (.mk rfl rfl) rfl (sz8 _) (rdr_vec (cs := y.cells) (by repeat (first | exact .head _ | apply List.Mem.tail)) (by omega) gb)) ?_
          refine WL.want rfl (WL1.alloc rfl rfl rfl rfl (fun b33 => ?_))
          refine wG rfl rfl (g_assign rfl (.mk (v := .int _ _) rfl rfl)) ?_
          refine WL.want rfl (WL1.storeAll rfl rfl (.mk rfl rfl) (.mk rfl rfl) (sz8 _) y.one (by rw [Blk.len]; rfl) .head ?_)
          refine WL.nil ?_
          (refine hK _ _ ?_; clear hK)
          refine WC.region rfl ?_
          refine wG rfl rfl (g_move rfl (.mk (v := .slice _ _ _) rfl rfl)) ?_
          refine wG rfl rfl (g_move rfl (.mk (v := .int _ _) rfl rfl)) ?_
          refine wG rfl rfl (g_sub rfl (.mk rfl rfl) (.mk rfl rfl) hsub) ?_
          refine wG rfl rfl (g_move rfl (.mk (v := .int _ _) rfl rfl)) ?_
          refine wG rfl rfl (g_add rfl (.mk rfl rfl) (.mk rfl rfl) hadd) ?_
          refine wG rfl rfl (g_loadA rfl (.mk rfl rfl) rfl (sz8 _) (rdr_pt (cs := y.cells) (by repeat (first | exact .head _ | apply List.Mem.tail)) gy)) ?_
          refine wG rfl rfl (g_buildS (us := [(0, [_]), (1, y.cells)]) (cs := Chg.cells ⟨((N + j : Nat) : Int), y⟩) rfl rfl rfl rfl (.cons (.mk (v := .int _ _) rfl rfl) (.cons (.mk (v := .agg _) rfl rfl) .nil)) rfl (fun p hp => by simp only [List.mem_cons, List.not_mem_nil, or_false] at hp; rcases hp with rfl | rfl <;> exact ⟨_, _, rfl, by first | rfl | exact Blk.len _, Nat.le_of_ble_eq_true rfl⟩) (chg_spls' _ _)) ?_
          refine WL.want rfl (WL1.lit elC rfl rfl rfl (.cons (.mk (v := .agg _) rfl rfl) .nil) rfl (by intro v hv; rw [List.mem_singleton] at hv; subst hv; show (Chg.cells _).toArray.size = 9; rw [List.size_toArray, Chg.len]) (List.append_nil _) rfl (fun b189 => ?_))
          refine WL.want rfl (WL1.append elC rfl rfl (.mk rfl rfl) (.mk rfl rfl) (.tail (.tail (.head))) (fun w hw => Sl.of_vec hw (.head _)) (Chg.one _) (by unfold maxLen; omega) (by omega) (fun A190 c190 => ?_))
          refine wG rfl rfl (g_assign rfl (.mk (v := .slice _ _ _) rfl rfl)) ?_
          refine WL.nil ?_
          (refine hK _ _ ?_; clear hK)
          refine WC.region rfl ?_
          refine wG rfl rfl (g_add rfl (.mk rfl rfl) (.mk rfl rfl) (IntWalk.i64_in _ (by omega))) ?_
          refine wG rfl rfl (g_move rfl (.mk (v := .int _ _) rfl rfl)) ?_
          refine WL.nil ?_
          exact ⟨j + 1, A190, c190, (by repeat (first | exact trivial | refine ⟨rfl, ?_⟩)), by rw [← hnx]; exact Imp.pick (by repeat (first | exact .head | apply Take.tail)) (Imp.pick (by repeat (first | exact .head | apply Take.tail)) (Imp.nil _)), by omega, by omega⟩
        · obtain rfl : j = 3 := by omega
          refine WC.seq fun K hK => ?_
          refine WC.region rfl ?_
          refine wG rfl rfl (g_lt rfl (.mk rfl rfl) (.mk rfl rfl) (decide_eq_false (by omega))) ?_
          refine WL.nil ?_
          (refine hK _ _ ?_; clear hK)
          refine WC.seq fun K hK => ?_
          refine WC.cond_false (.mk rfl rfl) ?_
          refine WC.exit ?_
          (clear hK; refine hK _ _ ?_; clear hK)
          refine WC.seq fun K hK => ?_
          refine WC.region rfl ?_
          refine wG rfl rfl (g_move rfl (.mk (v := .slice _ _ _) rfl rfl)) ?_
          refine wG rfl rfl (g_assign rfl (.mk (v := .slice _ _ _) rfl rfl)) ?_
          refine wG rfl rfl (g_assign rfl (.mk (v := .int _ _) rfl rfl)) ?_
          refine WL.nil ?_
          (refine hK _ _ ?_; clear hK)
          refine WC.ret ?_
          exact fun w' hw' => ⟨_, _, rfl, Imp.h (Imp.pick (A := vec F2 (T.length + 3) fc2 70 9 (cvs ((resL l T N p).take (T.length + 3)))) (by repeat (first | exact .head | apply Take.tail)) (Imp.nil _)) hw', .inl ⟨p, hp, F2, fc2, rfl, by rw [List.take_of_length_le (by omega)]⟩⟩
end
end Go.Proofs.Ytnkbnponpknokaa
namespace Go.Proofs.Ytnkbnponpknokaa
set_option maxRecDepth 20000
open Go.RowKit
section
variable {w : World} {A B D : Option Addr} {c d e N tl : Nat} {R : List Int} {O p : List Blk} {l : List Chg}
theorem compute_s (hc : cmpP N R O l = some p) (ht : (tch l (N + 3)).length = tl) (hN1 : 1 ≤ N) (hN2 : N ≤ 13) (ho : okC ((N + 3 : Nat) : Int) l = true) (hl : l.length ≠ 0) (hll : l.length ≤ 1000000) (hRO : R.length = O.length) (hR40 : R.length ≤ 1000) (hs : Sl w 1 (.slice A R.length c) R.length (ivs R)) (hsb : Sl w 8 (.slice B O.length d) O.length (kvs O)) (hsl : Sl w 9 (.slice D l.length e) l.length (cvs l)) :
    Calls Try.prog 28 #[iv ((N + 3 : Nat) : Int), .slice A R.length c, .slice B O.length d, .slice D l.length e] w fun en w' => ∃ v' M, en = .returned v' ∧ H w M w' ∧ ∃ A1 c1, v' = .tuple #[.slice A1 (tl + 3) c1, iv 0] ∧ M = [vec A1 (tl + 3) c1 70 9 (cvs (resL l (tch l (N + 3)) N p))] := by
  subst ht
  refine (compute_n hN1 hN2 ho hl hll hRO hR40 hs hsb hsl).mono ?_
  rintro en w' ⟨v', M, h1, h2, ⟨p', h3, h4⟩ | ⟨h3, _⟩⟩
  · rw [hc] at h3; cases h3
    exact ⟨v', M, h1, h2, h4⟩
  · rw [hc] at h3; cases h3
theorem compute_x (hc : cmpP N R O l = none) (hN1 : 1 ≤ N) (hN2 : N ≤ 13) (ho : okC ((N + 3 : Nat) : Int) l = true) (hl : l.length ≠ 0) (hll : l.length ≤ 1000000) (hRO : R.length = O.length) (hR40 : R.length ≤ 1000) (hs : Sl w 1 (.slice A R.length c) R.length (ivs R)) (hsb : Sl w 8 (.slice B O.length d) O.length (kvs O)) (hsl : Sl w 9 (.slice D l.length e) l.length (cvs l)) :
    Calls Try.prog 28 #[iv ((N + 3 : Nat) : Int), .slice A R.length c, .slice B O.length d, .slice D l.length e] w fun en w' => en = .returned (.tuple #[.slice none 0 0, iv 1]) ∧ Below w.heap.size w w' := by
  refine (compute_n hN1 hN2 ho hl hll hRO hR40 hs hsb hsl).mono ?_
  rintro en w' ⟨v', M, h1, h2, ⟨p', h3, h4⟩ | ⟨h3, h4⟩⟩
  · rw [hc] at h3; cases h3
  · exact ⟨by rw [h1, h4], h2.1⟩
theorem rcompute_s (hc : cmpP N R O l = some p) (ht : (tch l (N + 3)).length = tl) (hN1 : 1 ≤ N) (hN2 : N ≤ 13) (ho : okC ((N + 3 : Nat) : Int) l = true) (hl : l.length ≠ 0) (hll : l.length ≤ 1000000) (hRO : R.length = O.length) (hR40 : R.length ≤ 1000) (hs : Sl w 1 (.slice A R.length c) R.length (ivs R)) (hsb : Sl w 8 (.slice B O.length d) O.length (kvs O)) (hsl : Sl w 9 (.slice D l.length e) l.length (cvs l)) :
    Calls Try.prog 29 #[iv ((N + 3 : Nat) : Int), .slice A R.length c, .slice B O.length d, .slice D l.length e] w fun en w' => ∃ v' M, en = .returned v' ∧ H w M w' ∧ ∃ A1 c1, v' = .tuple #[.slice A1 (tl + 3) c1, iv 0] ∧ M = [vec A1 (tl + 3) c1 43 9 (cvs (resL l (tch l (N + 3)) N p))] := by
  subst ht
  refine (rcompute_n hN1 hN2 ho hl hll hRO hR40 hs hsb hsl).mono ?_
  rintro en w' ⟨v', M, h1, h2, ⟨p', h3, h4⟩ | ⟨h3, _⟩⟩
  · rw [hc] at h3; cases h3
    exact ⟨v', M, h1, h2, h4⟩
  · rw [hc] at h3; cases h3
theorem rcompute_x (hc : cmpP N R O l = none) (hN1 : 1 ≤ N) (hN2 : N ≤ 13) (ho : okC ((N + 3 : Nat) : Int) l = true) (hl : l.length ≠ 0) (hll : l.length ≤ 1000000) (hRO : R.length = O.length) (hR40 : R.length ≤ 1000) (hs : Sl w 1 (.slice A R.length c) R.length (ivs R)) (hsb : Sl w 8 (.slice B O.length d) O.length (kvs O)) (hsl : Sl w 9 (.slice D l.length e) l.length (cvs l)) :
    Calls Try.prog 29 #[iv ((N + 3 : Nat) : Int), .slice A R.length c, .slice B O.length d, .slice D l.length e] w fun en w' => en = .returned (.tuple #[.slice none 0 0, iv 1]) ∧ Below w.heap.size w w' := by
  refine (rcompute_n hN1 hN2 ho hl hll hRO hR40 hs hsb hsl).mono ?_
  rintro en w' ⟨v', M, h1, h2, ⟨p', h3, h4⟩ | ⟨h3, h4⟩⟩
  · rw [hc] at h3; cases h3
  · exact ⟨by rw [h1, h4], h2.1⟩
theorem wf_nat {k : Nat} (h : k ≤ 1000000) : (Lit.int .i64 (k : Int)).wf = true := by
  show (decide (IntKind.i64.min ≤ (k : Int)) && decide ((k : Int) ≤ IntKind.i64.max)) = true
  exact Bool.and_eq_true_iff.2 ⟨decide_eq_true (show (-9223372036854775808 : Int) ≤ (k : Int) by omega), decide_eq_true (show (k : Int) ≤ (9223372036854775807 : Int) by omega)⟩
theorem resL_wf (hN2 : N ≤ 13) (ho : okC ((N + 3 : Nat) : Int) l = true) : ∀ x ∈ resL l (tch l (N + 3)) N p, x.wf := by
  intro x hx
  unfold resL at hx
  rcases List.mem_append.1 hx with h | h
  · obtain ⟨k, hk, rfl⟩ := List.mem_map.1 h
    obtain ⟨i, hi, rfl⟩ := List.getElem_of_mem hk
    have := tch_lt ho hi
    rw [nth_eq hi] at this
    exact wf_nat (by omega)
  · obtain ⟨j, hj, rfl⟩ := List.mem_map.1 h
    have := List.mem_range.1 hj
    exact wf_nat (by omega)
end
end Go.Proofs.Ytnkbnponpknokaa
