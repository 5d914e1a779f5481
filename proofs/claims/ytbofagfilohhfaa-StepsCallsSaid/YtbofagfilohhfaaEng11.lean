/- The program logic: bundles of assertions, implications between lists of assertions, loops up to them. Over any program. No condition. -/
import Derived.Test.YtbofagfilohhfaaEng10
namespace Go.Proofs.Ytbofagfilohhfaa
set_option maxRecDepth 20000
open Go.RowKit
/-- What one list of assertions says of memory, another one says too, of no further blocks. -/
structure Imp (L M : List Asrt) : Prop where
  foot : ∀ D ∈ M, ∀ b, D.foot b → ∃ C ∈ L, C.foot b
  sep : ∀ {B : Nat} {w : World}, Sep B w L → Sep B w M
theorem Imp.h {L M : List Asrt} {w0 w : World} (h : Imp L M) (hw : H w0 L w) : H w0 M w := ⟨hw.1, h.sep hw.2⟩
theorem Imp.refl (L : List Asrt) : Imp L L := ⟨fun D hD b hb => ⟨D, hD, hb⟩, fun h => h⟩
theorem Imp.trans {L M N : List Asrt} (h : Imp L M) (h2 : Imp M N) : Imp L N :=
  ⟨fun D hD b hb => by obtain ⟨C, hC, hc⟩ := h2.foot D hD b hb; exact h.foot C hC b hc, fun hs => h2.sep (h.sep hs)⟩
theorem Imp.sub {L M : List Asrt} (h : M.Sublist L) : Imp L M := ⟨fun D hD b hb => ⟨D, h.subset hD, hb⟩, fun hs => hs.sub h⟩
theorem Imp.perm {L M : List Asrt} (h : L.Perm M) : Imp L M := ⟨fun D hD b hb => ⟨D, h.mem_iff.2 hD, hb⟩, fun hs => hs.perm h⟩
theorem Imp.cons {L M : List Asrt} {A : Asrt} (h : Imp L M) : Imp (A :: L) (A :: M) :=
  ⟨fun D hD b hb => by
    rcases List.mem_cons.1 hD with rfl | hD
    · exact ⟨_, .head _, hb⟩
    · obtain ⟨C, hC, hc⟩ := h.foot D hD b hb; exact ⟨C, .tail _ hC, hc⟩,
   fun ⟨h1, h2, h3, h4⟩ => ⟨h1, h2, fun C hC b hb hc => by obtain ⟨D, hD, hd⟩ := h.foot C hC b hc; exact h3 D hD b hb hd, h.sep h4⟩⟩
theorem Sep.raise {B : Nat} {w : World} : ∀ {M : List Asrt}, Sep 0 w M → (∀ D ∈ M, ∀ b, D.foot b → B ≤ b) → Sep B w M
  | [], _, _ => trivial
  | A :: M, ⟨h1, h2, h3, h4⟩, hb => ⟨h1, fun b hf => ⟨hb A (by simp) b hf, (h2 b hf).2⟩, h3, h4.raise fun D hD => hb D (by simp [hD])⟩
theorem Sep.parts {B : Nat} {w : World} : ∀ {M L : List Asrt}, Sep B w (M ++ L) → Sep B w M ∧ Sep B w L ∧ ∀ A ∈ M, ∀ C ∈ L, ∀ b, A.foot b → C.foot b → False
  | [], _, h => ⟨trivial, h, by simp⟩
  | A :: M, L, ⟨h1, h2, h3, h4⟩ => by
    obtain ⟨q1, q2, q3⟩ := h4.parts
    refine ⟨⟨h1, h2, fun C hC => h3 C (by simp [hC]), q1⟩, q2, fun D hD C hC b => ?_⟩
    rcases List.mem_cons.1 hD with rfl | hD
    · exact h3 C (by simp [hC]) b
    · exact q3 D hD C hC b
/-- Several assertions as one. -/
def bun (M : List Asrt) : Asrt where
  foot b := ∃ D ∈ M, D.foot b
  ok w := Sep 0 w M
  loc w w' h hw := by
    induction M with
    | nil => trivial
    | cons A M ih =>
      obtain ⟨h1, h2, h3, h4⟩ := hw
      refine ⟨A.loc w w' (fun b hb => h b ⟨A, by simp, hb⟩) h1, fun b hb => ⟨Nat.zero_le _, ?_⟩, h3, ih (fun b ⟨D, hD, hb⟩ => h b ⟨D, by simp [hD], hb⟩) h4⟩
      have h5 := h b ⟨A, by simp, hb⟩
      rw [Array.getElem?_eq_getElem (h2 b hb).2] at h5
      exact (Array.getElem?_eq_some_iff.1 h5).1
theorem Imp.unbun (M L : List Asrt) : Imp (bun M :: L) (M ++ L) :=
  ⟨fun D hD b hb => by
    rcases List.mem_append.1 hD with h | h
    · exact ⟨_, .head _, D, h, hb⟩
    · exact ⟨D, .tail _ h, hb⟩,
   fun ⟨h1, h2, h3, h4⟩ => (Sep.raise h1 fun D hD b hb => (h2 b ⟨D, hD, hb⟩).1).append h4 fun A hA C hC b hb hc => h3 C hC b ⟨A, hA, hb⟩ hc⟩
theorem Imp.bun (M L : List Asrt) : Imp (M ++ L) (bun M :: L) :=
  ⟨fun D hD b hb => by
    rcases List.mem_cons.1 hD with rfl | h
    · obtain ⟨C, hC, hc⟩ := hb; exact ⟨C, List.mem_append_left _ hC, hc⟩
    · exact ⟨D, List.mem_append_right _ h, hb⟩,
   fun hs => by
    obtain ⟨q1, q2, q3⟩ := hs.parts
    exact ⟨q1.mono (Nat.zero_le _), fun b ⟨D, hD, hb⟩ => (q1.in_ D hD).2 b hb, fun C hC b ⟨D, hD, hb⟩ hc => q3 D hD C hC b hb hc, q2⟩⟩
theorem Swap.perms {A A' : Asrt} {L L' : List Asrt} (h : Swap A A' L L') : ∃ L1, L.Perm (A :: L1) ∧ L'.Perm (A' :: L1) := by
  induction h with
  | head => exact ⟨_, .refl _, .refl _⟩
  | tail _ ih => obtain ⟨L1, h1, h2⟩ := ih; exact ⟨_ :: L1, (List.Perm.cons _ h1).trans (List.Perm.swap _ _ _), (List.Perm.cons _ h2).trans (List.Perm.swap _ _ _)⟩
section
variable {P : Program} {n : Fr} {w0 : World} {ops : Array Oper} {K : Post} {o : Oper} {rest : List Oper} {E : Env} {L M : List Asrt} {Q : Exit → Post}
theorem WC.imp {c : Code} (h : Imp L M) (k : WC P n w0 c Q E M) : WC P n w0 c Q E L := fun w hw => k w (h.h hw)
theorem WL.imp {l : List Oper} (h : Imp L M) (k : WL P n w0 ops K l E M) : WL P n w0 ops K l E L := fun w hw => k w (h.h hw)
theorem WL1.imp (h : Imp L M) (k : WL1 P n w0 ops K o rest E M) : WL1 P n w0 ops K o rest E L := fun w hw => k w (h.h hw)
theorem WC.seqI {x y : Code} {γ : Type} (m : Nat) (VI : γ → List (Nat × Value)) (LI : γ → List Asrt) (h1 : WC P n w0 x (seqQ (fun E' L' => ∃ g, Out m E' E ∧ Agree E' (VI g) ∧ Imp L' (LI g)) Q) E L)
    (h2 : ∀ g U, WC P n w0 y Q (sets (hav m E U) (VI g)) (LI g)) : WC P n w0 (.seq x y) Q E L := by
  refine WC.seq fun K hK w hw => wpMono ?_ (h1 w hw)
  intro e a w' hq
  cases e with
  | normal =>
    obtain ⟨E', L', rfl, hH, g, ho, ha, hs⟩ := hq
    refine ⟨E', LI g, rfl, hs.h hH, hK _ _ ?_⟩
    have := h2 g E'
    rwa [hav_out ho, sets_same ha] at this
  | _ => exact hq
theorem WC.loopI {c : Code} {γ : Type} (m : Nat) (VI : γ → List (Nat × Value)) (LI : γ → List Asrt) (pre : γ → Prop) (μ : γ → Nat) (g : γ) (hE : Agree E (VI g)) (hL : Imp L (LI g)) (hp : pre g)
    (round : ∀ g U, pre g → WC P n w0 c (seqQ (fun E' L' => ∃ g', Out m E' E ∧ Agree E' (VI g') ∧ Imp L' (LI g') ∧ pre g' ∧ μ g' < μ g) Q) (sets (hav m E U) (VI g)) (LI g)) : WC P n w0 (.loop c) Q E L := by
  intro w hw
  refine wpIn_loop_ghost (Q := liftQ n w0 Q) (fun k a w => ∃ g U, μ g = k ∧ a = actOf n (sets (hav m E U) (VI g)) ∧ H w0 (LI g) w ∧ pre g) (μ g) ⟨g, E, rfl, ?_, hL.h hw, hp⟩ ?_
  · rw [hav_out (Out.refl m E), sets_same hE]
  · rintro k a w' ⟨g, U, rfl, rfl, hH, hp'⟩
    refine wpIn_mono (round g U hp' w' hH) ?_
    intro e a' w'' hq
    cases e with
    | normal =>
      obtain ⟨E', L', rfl, hH', g', ho, ha, hs, hp'', hm⟩ := hq
      exact ⟨μ g', hm, g', E', rfl, by rw [hav_out ho, sets_same ha], hs.h hH', hp''⟩
    | _ => exact hq
theorem WC.loopI2 {c : Code} {α β : Type} (m : Nat) (VI : α → β → List (Nat × Value)) (LI : α → β → List Asrt) (pre : α → β → Prop) (μ : α → β → Nat) (g0 : α) (g1 : β) (hE : Agree E (VI g0 g1)) (hL : Imp L (LI g0 g1)) (hp : pre g0 g1)
    (round : ∀ h0 h1 U, pre h0 h1 → WC P n w0 c (seqQ (fun E' L' => ∃ g0 g1, Out m E' E ∧ Agree E' (VI g0 g1) ∧ Imp L' (LI g0 g1) ∧ pre g0 g1 ∧ μ g0 g1 < μ h0 h1) Q) (sets (hav m E U) (VI h0 h1)) (LI h0 h1)) : WC P n w0 (.loop c) Q E L :=
  WC.loopI (γ := α × β) m (fun g => VI g.1 g.2) (fun g => LI g.1 g.2) (fun g => pre g.1 g.2) (fun g => μ g.1 g.2) (g0, g1) hE hL hp fun g U hpre w hw => wpMono (by
    intro e a w' hq
    cases e with
    | normal => obtain ⟨E', L', rfl, hH, g0, g1, h⟩ := hq; exact ⟨E', L', rfl, hH, (g0, g1), h⟩
    | _ => exact hq) (round g.1 g.2 U hpre w hw)
theorem WC.loopI3 {c : Code} {α β γ : Type} (m : Nat) (VI : α → β → γ → List (Nat × Value)) (LI : α → β → γ → List Asrt) (pre : α → β → γ → Prop) (μ : α → β → γ → Nat) (g0 : α) (g1 : β) (g2 : γ) (hE : Agree E (VI g0 g1 g2)) (hL : Imp L (LI g0 g1 g2)) (hp : pre g0 g1 g2)
    (round : ∀ h0 h1 h2 U, pre h0 h1 h2 → WC P n w0 c (seqQ (fun E' L' => ∃ g0 g1 g2, Out m E' E ∧ Agree E' (VI g0 g1 g2) ∧ Imp L' (LI g0 g1 g2) ∧ pre g0 g1 g2 ∧ μ g0 g1 g2 < μ h0 h1 h2) Q) (sets (hav m E U) (VI h0 h1 h2)) (LI h0 h1 h2)) : WC P n w0 (.loop c) Q E L :=
  WC.loopI (γ := α × β × γ) m (fun g => VI g.1 g.2.1 g.2.2) (fun g => LI g.1 g.2.1 g.2.2) (fun g => pre g.1 g.2.1 g.2.2) (fun g => μ g.1 g.2.1 g.2.2) (g0, g1, g2) hE hL hp fun g U hpre w hw => wpMono (by
    intro e a w' hq
    cases e with
    | normal => obtain ⟨E', L', rfl, hH, g0, g1, g2, h⟩ := hq; exact ⟨E', L', rfl, hH, (g0, g1, g2), h⟩
    | _ => exact hq) (round g.1 g.2.1 g.2.2 U hpre w hw)
theorem WC.loopI4 {c : Code} {α β γ δ : Type} (m : Nat) (VI : α → β → γ → δ → List (Nat × Value)) (LI : α → β → γ → δ → List Asrt) (pre : α → β → γ → δ → Prop) (μ : α → β → γ → δ → Nat) (g0 : α) (g1 : β) (g2 : γ) (g3 : δ) (hE : Agree E (VI g0 g1 g2 g3)) (hL : Imp L (LI g0 g1 g2 g3)) (hp : pre g0 g1 g2 g3)
    (round : ∀ h0 h1 h2 h3 U, pre h0 h1 h2 h3 → WC P n w0 c (seqQ (fun E' L' => ∃ g0 g1 g2 g3, Out m E' E ∧ Agree E' (VI g0 g1 g2 g3) ∧ Imp L' (LI g0 g1 g2 g3) ∧ pre g0 g1 g2 g3 ∧ μ g0 g1 g2 g3 < μ h0 h1 h2 h3) Q) (sets (hav m E U) (VI h0 h1 h2 h3)) (LI h0 h1 h2 h3)) : WC P n w0 (.loop c) Q E L :=
  WC.loopI (γ := α × β × γ × δ) m (fun g => VI g.1 g.2.1 g.2.2.1 g.2.2.2) (fun g => LI g.1 g.2.1 g.2.2.1 g.2.2.2) (fun g => pre g.1 g.2.1 g.2.2.1 g.2.2.2) (fun g => μ g.1 g.2.1 g.2.2.1 g.2.2.2) (g0, g1, g2, g3) hE hL hp fun g U hpre w hw => wpMono (by
    intro e a w' hq
    cases e with
    | normal => obtain ⟨E', L', rfl, hH, g0, g1, g2, g3, h⟩ := hq; exact ⟨E', L', rfl, hH, (g0, g1, g2, g3), h⟩
    | _ => exact hq) (round g.1 g.2.1 g.2.2.1 g.2.2.2 U hpre w hw)
theorem WC.loopI5 {c : Code} {α β γ δ ε : Type} (m : Nat) (VI : α → β → γ → δ → ε → List (Nat × Value)) (LI : α → β → γ → δ → ε → List Asrt) (pre : α → β → γ → δ → ε → Prop) (μ : α → β → γ → δ → ε → Nat) (g0 : α) (g1 : β) (g2 : γ) (g3 : δ) (g4 : ε) (hE : Agree E (VI g0 g1 g2 g3 g4)) (hL : Imp L (LI g0 g1 g2 g3 g4)) (hp : pre g0 g1 g2 g3 g4)
    (round : ∀ h0 h1 h2 h3 h4 U, pre h0 h1 h2 h3 h4 → WC P n w0 c (seqQ (fun E' L' => ∃ g0 g1 g2 g3 g4, Out m E' E ∧ Agree E' (VI g0 g1 g2 g3 g4) ∧ Imp L' (LI g0 g1 g2 g3 g4) ∧ pre g0 g1 g2 g3 g4 ∧ μ g0 g1 g2 g3 g4 < μ h0 h1 h2 h3 h4) Q) (sets (hav m E U) (VI h0 h1 h2 h3 h4)) (LI h0 h1 h2 h3 h4)) : WC P n w0 (.loop c) Q E L :=
  WC.loopI (γ := α × β × γ × δ × ε) m (fun g => VI g.1 g.2.1 g.2.2.1 g.2.2.2.1 g.2.2.2.2) (fun g => LI g.1 g.2.1 g.2.2.1 g.2.2.2.1 g.2.2.2.2) (fun g => pre g.1 g.2.1 g.2.2.1 g.2.2.2.1 g.2.2.2.2) (fun g => μ g.1 g.2.1 g.2.2.1 g.2.2.2.1 g.2.2.2.2) (g0, g1, g2, g3, g4) hE hL hp fun g U hpre w hw => wpMono (by
    intro e a w' hq
    cases e with
    | normal => obtain ⟨E', L', rfl, hH, g0, g1, g2, g3, g4, h⟩ := hq; exact ⟨E', L', rfl, hH, (g0, g1, g2, g3, g4), h⟩
    | _ => exact hq) (round g.1 g.2.1 g.2.2.1 g.2.2.2.1 g.2.2.2.2 U hpre w hw)
theorem WC.loopI6 {c : Code} {α β γ δ ε ζ : Type} (m : Nat) (VI : α → β → γ → δ → ε → ζ → List (Nat × Value)) (LI : α → β → γ → δ → ε → ζ → List Asrt) (pre : α → β → γ → δ → ε → ζ → Prop) (μ : α → β → γ → δ → ε → ζ → Nat) (g0 : α) (g1 : β) (g2 : γ) (g3 : δ) (g4 : ε) (g5 : ζ) (hE : Agree E (VI g0 g1 g2 g3 g4 g5)) (hL : Imp L (LI g0 g1 g2 g3 g4 g5)) (hp : pre g0 g1 g2 g3 g4 g5)
    (round : ∀ h0 h1 h2 h3 h4 h5 U, pre h0 h1 h2 h3 h4 h5 → WC P n w0 c (seqQ (fun E' L' => ∃ g0 g1 g2 g3 g4 g5, Out m E' E ∧ Agree E' (VI g0 g1 g2 g3 g4 g5) ∧ Imp L' (LI g0 g1 g2 g3 g4 g5) ∧ pre g0 g1 g2 g3 g4 g5 ∧ μ g0 g1 g2 g3 g4 g5 < μ h0 h1 h2 h3 h4 h5) Q) (sets (hav m E U) (VI h0 h1 h2 h3 h4 h5)) (LI h0 h1 h2 h3 h4 h5)) : WC P n w0 (.loop c) Q E L :=
  WC.loopI (γ := α × β × γ × δ × ε × ζ) m (fun g => VI g.1 g.2.1 g.2.2.1 g.2.2.2.1 g.2.2.2.2.1 g.2.2.2.2.2) (fun g => LI g.1 g.2.1 g.2.2.1 g.2.2.2.1 g.2.2.2.2.1 g.2.2.2.2.2) (fun g => pre g.1 g.2.1 g.2.2.1 g.2.2.2.1 g.2.2.2.2.1 g.2.2.2.2.2) (fun g => μ g.1 g.2.1 g.2.2.1 g.2.2.2.1 g.2.2.2.2.1 g.2.2.2.2.2) (g0, g1, g2, g3, g4, g5) hE hL hp fun g U hpre w hw => wpMono (by
    intro e a w' hq
    cases e with
    | normal => obtain ⟨E', L', rfl, hH, g0, g1, g2, g3, g4, g5, h⟩ := hq; exact ⟨E', L', rfl, hH, (g0, g1, g2, g3, g4, g5), h⟩
    | _ => exact hq) (round g.1 g.2.1 g.2.2.1 g.2.2.2.1 g.2.2.2.2.1 g.2.2.2.2.2 U hpre w hw)
theorem WC.loopI7 {c : Code} {α β γ δ ε ζ η : Type} (m : Nat) (VI : α → β → γ → δ → ε → ζ → η → List (Nat × Value)) (LI : α → β → γ → δ → ε → ζ → η → List Asrt) (pre : α → β → γ → δ → ε → ζ → η → Prop) (μ : α → β → γ → δ → ε → ζ → η → Nat) (g0 : α) (g1 : β) (g2 : γ) (g3 : δ) (g4 : ε) (g5 : ζ) (g6 : η) (hE : Agree E (VI g0 g1 g2 g3 g4 g5 g6)) (hL : Imp L (LI g0 g1 g2 g3 g4 g5 g6)) (hp : pre g0 g1 g2 g3 g4 g5 g6)
    (round : ∀ h0 h1 h2 h3 h4 h5 h6 U, pre h0 h1 h2 h3 h4 h5 h6 → WC P n w0 c (seqQ (fun E' L' => ∃ g0 g1 g2 g3 g4 g5 g6, Out m E' E ∧ Agree E' (VI g0 g1 g2 g3 g4 g5 g6) ∧ Imp L' (LI g0 g1 g2 g3 g4 g5 g6) ∧ pre g0 g1 g2 g3 g4 g5 g6 ∧ μ g0 g1 g2 g3 g4 g5 g6 < μ h0 h1 h2 h3 h4 h5 h6) Q) (sets (hav m E U) (VI h0 h1 h2 h3 h4 h5 h6)) (LI h0 h1 h2 h3 h4 h5 h6)) : WC P n w0 (.loop c) Q E L :=
  WC.loopI (γ := α × β × γ × δ × ε × ζ × η) m (fun g => VI g.1 g.2.1 g.2.2.1 g.2.2.2.1 g.2.2.2.2.1 g.2.2.2.2.2.1 g.2.2.2.2.2.2) (fun g => LI g.1 g.2.1 g.2.2.1 g.2.2.2.1 g.2.2.2.2.1 g.2.2.2.2.2.1 g.2.2.2.2.2.2) (fun g => pre g.1 g.2.1 g.2.2.1 g.2.2.2.1 g.2.2.2.2.1 g.2.2.2.2.2.1 g.2.2.2.2.2.2) (fun g => μ g.1 g.2.1 g.2.2.1 g.2.2.2.1 g.2.2.2.2.1 g.2.2.2.2.2.1 g.2.2.2.2.2.2) (g0, g1, g2, g3, g4, g5, g6) hE hL hp fun g U hpre w hw => wpMono (by
    intro e a w' hq
    cases e with
    | normal => obtain ⟨E', L', rfl, hH, g0, g1, g2, g3, g4, g5, g6, h⟩ := hq; exact ⟨E', L', rfl, hH, (g0, g1, g2, g3, g4, g5, g6), h⟩
    | _ => exact hq) (round g.1 g.2.1 g.2.2.1 g.2.2.2.1 g.2.2.2.2.1 g.2.2.2.2.2.1 g.2.2.2.2.2.2 U hpre w hw)
end
theorem own_n {w w' : World} {e : TypeId} {sz n : Nat} {v : Value} {xs : List Value} (h : w'.ownsRow w.heap.size e sz v n xs) (hb : Below w.heap.size w w') : ∃ A c, v = .slice A n c ∧ H w [vec A n c e sz xs] w' := by
  rcases h.2 with ⟨h2, h3⟩ | ⟨g, cap, cur, h2, hg, h4, h5, h6, h7, h8⟩
  · subst h3
    refine ⟨none, 0, h2, hb, ⟨h.1, .inl ⟨rfl, rfl⟩⟩, ?_, by simp, trivial⟩
    rintro b ⟨a, ha, _⟩; cases ha
  · refine ⟨some ⟨g, 0, none⟩, cap, h2, hb, ⟨h.1, .inr ⟨g, cap, cur, rfl, Nat.zero_le _, h4, h5, h6, h7, h8⟩⟩, ?_, by simp, trivial⟩
    rintro b ⟨a, ha, rfl⟩
    injection ha with ha
    subst ha
    exact ⟨hg, (Array.getElem?_eq_some_iff.1 h4).1⟩
end Go.Proofs.Ytbofagfilohhfaa
