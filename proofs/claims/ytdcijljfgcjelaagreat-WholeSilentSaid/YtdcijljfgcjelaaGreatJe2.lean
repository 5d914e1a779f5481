/- Texts joined: Eng13, Eng14, Eng15, Sil1, Eng17, Eng19, MatW, MatR, Lin, Gf, Mat1, Mat2, Mat3, Mat4, Gauss, Gp, Gi, Mat5. The parts say what each of them proves. No condition. -/
import Derived.Test.YtdcijljfgcjelaaGreatJe1
import Derived.Deep.AppendSrc
import Derived.Deep.Upon
import Derived.Laws.CopyRow
import Derived.Lib.SliceRun
import Derived.OrdersIn
namespace Go.Proofs.YtdcijljfgcjelaaGreat
set_option maxRecDepth 20000
open Go.RowKit
section
variable {P : Program} {ops : Array Oper} {Q : Exit → Act → World → Prop} {S : World → Prop} {bars : List Nat}
def barred (bars : List Nat) (s : Array Bool) : Bool := bars.any fun b => s.getD b false
def wpUntil (P : Program) (ops : Array Oper) (Q : Exit → Act → World → Prop) (S : World → Prop) (bars : List Nat) : Nat → Array Bool → Act → World → Prop
  | 0, s, a, w => Region.ready .any ops s = [] ∧ Q .normal a w
  | k + 1, s, a, w => (Region.ready .any ops s = [] → Q .normal a w) ∧ ∀ i ∈ Region.ready .any ops s, wpOp P ops Q i (fun a' w' => (barred bars (s.setIfInBounds i true) = true ∨ S w') ∧ wpUntil P ops Q S bars k (s.setIfInBounds i true) a' w') a w
theorem wpUntil.any : ∀ {k : Nat} {s : Array Bool} {a : Act} {w : World}, wpUntil P ops Q S bars k s a w → wpAny P .any ops Q k s a w
  | 0, _, _, _, h => h
  | _ + 1, _, _, _, h => ⟨h.1, fun i hi => wpOp_mono (fun _ _ h2 => h2.2.any) (h.2 i hi)⟩
def directB (ops : Array Oper) (j i : Nat) : Bool := match ops[j]? with | some o => o.after.any fun e => Region.binds .any e && e.on == i | none => false
theorem not_waits {s : Array Bool} {i j : Nat} (hi : i ∈ Region.ready .any ops s) (hj : j ∈ Region.ready .any ops s) : ∀ oj, ops[j]? = some oj → ∀ e ∈ oj.after, Region.binds .any e = true → e.on ≠ i := by
  intro oj hoj e he hb heq
  obtain ⟨_, o, ho, hall⟩ := mem_ready.1 hj
  obtain rfl : o = oj := Option.some.inj (ho.symm.trans hoj)
  have h1 := hall e he hb
  rw [heq, getD_both (mem_ready.1 hi).1] at h1
  cases h1
theorem not_bar {s : Array Bool} {i j : Nat} (hi : i ∈ Region.ready .any ops s) (hj : j ∈ Region.ready .any ops s) (hd : directB ops j i = true) : False := by
  obtain ⟨_, o, ho, _⟩ := mem_ready.1 hj
  unfold directB at hd
  rw [ho] at hd
  obtain ⟨e, he, h2⟩ := Array.any_eq_true'.1 hd
  simp only [Bool.and_eq_true, beq_iff_eq] at h2
  exact not_waits hi hj o ho e he h2.1 h2.2
theorem wpUntil.first {i : Nat} {o : Oper} {v : Value} (ho : ops[i]? = some o) (hsel : ∀ (j : Nat) (o : Oper) cs b, ops[j]? = some o → o.op ≠ .select cs b) (hQ : ∀ c a w, Q (.panic c) (a.put o.dst v) w → Q (.panic c) a w) :
    ∀ (k : Nat) (s : Array Bool) (a : Act) (w : World), (∀ j oj, ops[j]? = some oj → j ≠ i → s.getD j true = false → (∀ e ∈ oj.after, Region.binds .any e = true → e.on ≠ i) → o.apart ops oj = true) →
      (∀ b ∈ bars, s.getD b false = false ∧ directB ops b i = true) → i ∈ Region.ready .any ops s → YieldsIf P ops S o v a → S w →
      wpUntil P ops Q S bars k (s.setIfInBounds i true) (a.put o.dst v) w → wpUntil P ops Q S bars (k + 1) s a w := by
  intro k
  induction k with
  | zero =>
    intro s a w _ _ hr hy hS h
    refine ⟨fun h0 => absurd (h0 ▸ hr) (by simp), fun j hj => ?_⟩
    by_cases hji : j = i
    · subst hji; exact hy.wpOp ho hS ⟨.inr hS, h⟩
    · have := ready_mono hj hji
      rw [h.1] at this; cases this
  | succ k ih =>
    intro s a w hfree hbar hr hy hS h
    refine ⟨fun h0 => absurd (h0 ▸ hr) (by simp), fun j hj => ?_⟩
    by_cases hji : j = i
    · subst hji; exact hy.wpOp ho hS ⟨.inr hS, h⟩
    · obtain ⟨hjun, oj, hoj, _⟩ := mem_ready.1 hj
      have hap := hfree j oj hoj hji hjun (not_waits hr hj oj hoj)
      have h2 := wpOp_putIf hoj hap (fun cs b => hsel i o cs b ho) (fun cs b => hsel j oj cs b hoj) hQ hy (h.2 j (ready_mono hj hji))
      refine wpOp_mono ?_ h2
      rintro a' w' ⟨hy', hS', h'⟩
      have hSw : S w' := by
        rcases hS' with hb | hS'
        · obtain ⟨b, hb, hl⟩ := List.any_eq_true.1 hb
          obtain ⟨h3, h4⟩ := hbar b hb
          by_cases e : j = b
          · subst e; exact (not_bar hr hj h4).elim
          · by_cases e2 : i = b
            · subst e2; exact (not_bar hr hr h4).elim
            · rw [getD_set_ne false e, getD_set_ne false e2, h3] at hl; cases hl
        · exact hS'
      refine ⟨.inr hSw, ih (s.setIfInBounds j true) a' w' (fun q oq hq hqi hun hno => hfree q oq hq hqi ?_ hno) (fun b hb => ⟨?_, (hbar b hb).2⟩) (ready_mono hr fun e => hji e.symm) hy' hSw ?_⟩
      · by_cases hjq : j = q
        · subst hjq; exact hjun
        · rwa [getD_set_ne true hjq] at hun
      · by_cases e : j = b
        · subst e; exact (not_bar hr hj (hbar j hb).2).elim
        · rw [getD_set_ne false e]; exact (hbar b hb).1
      · rw [Array.setIfInBounds_comm _ _ hji]; exact h'
theorem wpUntil.firstP {i : Nat} {o : Oper} {v : Value} (ho : ops[i]? = some o) (hsel : ∀ (j : Nat) (o : Oper) cs b, ops[j]? = some o → o.op ≠ .select cs b) (hQ : ∀ c a w, Q (.panic c) (a.put o.dst v) w → Q (.panic c) a w) :
    ∀ (k : Nat) (s : Array Bool) (a : Act) (w : World), (∀ j oj, ops[j]? = some oj → j ≠ i → s.getD j true = false → (∀ e ∈ oj.after, Region.binds .any e = true → e.on ≠ i) → o.apart ops oj = true) →
      i ∉ bars → i ∈ Region.ready .any ops s → YieldsIf P ops (fun _ => True) o v a → (barred bars s = true ∨ S w) →
      wpUntil P ops Q S bars k (s.setIfInBounds i true) (a.put o.dst v) w → wpUntil P ops Q S bars (k + 1) s a w := by
  have grow : ∀ (s : Array Bool) (j : Nat), barred bars s = true → barred bars (s.setIfInBounds j true) = true := fun s j h => by
    obtain ⟨b, hb, hl⟩ := List.any_eq_true.1 h
    refine List.any_eq_true.2 ⟨b, hb, ?_⟩
    by_cases e : j = b
    · subst e
      have hlt : j < s.size := by
        rcases Nat.lt_or_ge j s.size with h | h
        · exact h
        · simp [Array.getD_eq_getD_getElem?, Array.getElem?_eq_none h] at hl
      simp [Array.getD_eq_getD_getElem?, hlt]
    · rw [getD_set_ne false e]; exact hl
  intro k
  induction k with
  | zero =>
    intro s a w _ hib hr hy hS h
    refine ⟨fun h0 => absurd (h0 ▸ hr) (by simp), fun j hj => ?_⟩
    by_cases hji : j = i
    · subst hji; exact hy.wpOp ho trivial ⟨hS.imp (grow s _) id, h⟩
    · have := ready_mono hj hji
      rw [h.1] at this; cases this
  | succ k ih =>
    intro s a w hfree hib hr hy hS h
    refine ⟨fun h0 => absurd (h0 ▸ hr) (by simp), fun j hj => ?_⟩
    by_cases hji : j = i
    · subst hji; exact hy.wpOp ho trivial ⟨hS.imp (grow s _) id, h⟩
    · obtain ⟨hjun, oj, hoj, _⟩ := mem_ready.1 hj
      have hap := hfree j oj hoj hji hjun (not_waits hr hj oj hoj)
      have h2 := wpOp_putIf hoj hap (fun cs b => hsel i o cs b ho) (fun cs b => hsel j oj cs b hoj) hQ hy (h.2 j (ready_mono hj hji))
      refine wpOp_mono ?_ h2
      rintro a' w' ⟨hy', hS', h'⟩
      have hb' : barred bars (s.setIfInBounds j true) = true ∨ S w' := by
        rcases hS' with hb | hS'
        · left
          obtain ⟨b, hb, hl⟩ := List.any_eq_true.1 hb
          have e2 : i ≠ b := fun e => hib (e ▸ hb)
          refine List.any_eq_true.2 ⟨b, hb, ?_⟩
          by_cases e : j = b
          · subst e
            have hlt : j < s.size := by
              rcases Nat.lt_or_ge j s.size with h | h
              · exact h
              · simp [Array.getD_eq_getD_getElem?, Array.getElem?_eq_none h] at hjun
            simp [Array.getD_eq_getD_getElem?, hlt]
          · rw [getD_set_ne false e, getD_set_ne false e2] at hl
            rw [getD_set_ne false e]; exact hl
        · exact .inr hS'
      refine ⟨hb', ih (s.setIfInBounds j true) a' w' (fun q oq hq hqi hun hno => hfree q oq hq hqi ?_ hno) hib (ready_mono hr fun e => hji e.symm) hy' hb' ?_⟩
      · by_cases hjq : j = q
        · subst hjq; exact hjun
        · rwa [getD_set_ne true hjq] at hun
      · rw [Array.setIfInBounds_comm _ _ hji]; exact h'
end
section
variable {P : Program} {n : Fr} {w0 : World} {E : Env} {L LS : List Asrt} {bars : List Nat} {Q : Exit → Post} {K : Post} {l : List Oper} {f : Nat} {marks : Array Bool}
def WB (P : Program) (n : Fr) (w0 : World) (l : List Oper) (K : Post) (LS : List Asrt) (bars : List Nat) (f : Nat) (marks : Array Bool) (E : Env) (L : List Asrt) : Prop :=
  ∀ w, H w0 L w → ∀ Q : Exit → Act → World → Prop, (∀ c a w, ¬ Q (.panic c) a w) → (∀ E' L' w', H w0 L' w' → K E' L' → Q .normal (actOf n E') w') → wpUntil P l.toArray Q (H w0 LS) bars f marks (actOf n E) w
theorem WC.until (LS : List Asrt) (bars : List Nat) {id : Nat} (hf : fitsR n l = true) (hm : P.follows .mixedOrders = true) (h : WB P n w0 l (Q .normal) LS bars l.length (Array.replicate l.length false) E L) : WC P n w0 (.region id l.toArray true) Q E L := fun w hw => by
  refine wpF_any (by simpa using hf) liftQ_in hm ?_
  have := (h _ hw.drew (liftQ n w0 Q) (fun _ _ _ h => h) fun E' L' w' hH hK => ⟨_, _, rfl, hH, hK⟩).any
  simpa using this
theorem WC.untilL (bars : List Nat) {id : Nat} (hf : fitsR n l = true) (hm : P.follows .mixedOrders = true) (h : WB P n w0 l (Q .normal) L bars l.length (Array.replicate l.length false) E L) : WC P n w0 (.region id l.toArray true) Q E L := WC.until L bars hf hm h
theorem WB.free (h : WY P n w0 l K f marks E L) (hb : ∀ i ∈ Region.ready .any l.toArray marks, i ∈ bars) (hr : Region.ready .any l.toArray marks = []) : WB P n w0 l K LS bars f marks E L := fun w hw Q hP hQ => by
  have := h w hw Q hP hQ
  cases f with
  | zero => exact this
  | succ f => exact ⟨this.1, by rw [hr]; simp⟩
theorem WB.done (hr : Region.ready .any l.toArray marks = []) (h : K E L) : WB P n w0 l K LS bars f marks E L := WB.free (WY.done hr h) (by rw [hr]; simp) hr
def barsOk (l : List Oper) (bars : List Nat) (marks : Array Bool) (i : Nat) : Bool := bars.all fun b => !marks.getD b false && directB l.toArray b i
theorem WB.take (i : Nat) {o : Oper} {d : Nat} {v : Value} (ho : l[i]? = some o) (hs : Region.noSelect l.toArray = true) (hf : Region.free .any l.toArray marks i = true) (hr : (Region.ready .any l.toArray marks).contains i = true)
    (hb : barsOk l bars marks i = true) (hg : o.guard = none) (hd : o.dst = some d) (hi : Imp L LS) (h : Gives P n (H w0 LS) o E v) (k : WB P n w0 l K LS bars f (marks.setIfInBounds i true) (E.set d v) L) : WB P n w0 l K LS bars (f + 1) marks E L := fun w hw Q hP hQ => by
  have ho' : l.toArray[i]? = some o := by rw [List.getElem?_toArray]; exact ho
  refine wpUntil.first ho' (Region.noSelect_spec hs) (fun c a w hq => absurd hq (hP _ _ _)) f marks _ w (Region.free_spec ho' hf) (fun b hbm => ?_) (by simpa using hr) (.inl ⟨by simp [Region.wanted, hg], fun w' hw' => h w' hw'⟩) (hi.h hw) ?_
  · have := List.all_eq_true.1 hb b hbm
    simp only [Bool.and_eq_true, Bool.not_eq_true'] at this
    exact this
  · rw [actOf_put, hd]
    exact k w hw Q hP hQ
theorem WB.takeP (i : Nat) {o : Oper} {d : Nat} {v : Value} (ho : l[i]? = some o) (hs : Region.noSelect l.toArray = true) (hf : Region.free .any l.toArray marks i = true) (hr : (Region.ready .any l.toArray marks).contains i = true)
    (hb : bars.contains i = false) (hg : o.guard = none) (hd : o.dst = some d) (hi : barred bars marks = true ∨ Imp L LS) (h : Gives P n (fun _ => True) o E v) (k : WB P n w0 l K LS bars f (marks.setIfInBounds i true) (E.set d v) L) : WB P n w0 l K LS bars (f + 1) marks E L := fun w hw Q hP hQ => by
  have ho' : l.toArray[i]? = some o := by rw [List.getElem?_toArray]; exact ho
  refine wpUntil.firstP ho' (Region.noSelect_spec hs) (fun c a w hq => absurd hq (hP _ _ _)) f marks _ w (Region.free_spec ho' hf) (by simpa using hb) (by simpa using hr) (.inl ⟨by simp [Region.wanted, hg], fun w' _ => h w' trivial⟩) (hi.imp id (fun h => h.h hw)) ?_
  rw [actOf_put, hd]
  exact k w hw Q hP hQ
theorem WB.all {rs : List Nat} (hr : Region.ready .any l.toArray marks = rs) (hne : rs ≠ []) (h : ∀ i ∈ rs, ∃ o, l[i]? = some o ∧ o.guard = none ∧ WL1 P n w0 l.toArray (fun E' L' => (barred bars (marks.setIfInBounds i true) = true ∨ Imp L' LS) ∧ WB P n w0 l K LS bars f (marks.setIfInBounds i true) E' L') o [] E L) : WB P n w0 l K LS bars (f + 1) marks E L := fun w hw Q hP hQ => by
  refine ⟨fun h0 => absurd (hr ▸ h0) hne, fun i hi => ?_⟩
  rw [hr] at hi
  obtain ⟨o, ho, hg, h1⟩ := h i hi
  unfold wpOp
  rw [List.getElem?_toArray, ho]
  simp only [Region.wanted, hg, if_true]
  left
  have h2 := h1 w hw (fun e a w => match e with | .normal => (barred bars (marks.setIfInBounds i true) = true ∨ H w0 LS w) ∧ wpUntil P l.toArray Q (H w0 LS) bars f (marks.setIfInBounds i true) a w | e => Q e a w) (fun E' L' w' hH hK => ⟨hK.1.imp id (fun h => h.h hH), hK.2 w' hH Q hP hQ⟩) (fun a w => (barred bars (marks.setIfInBounds i true) = true ∨ H w0 LS w) ∧ wpUntil P l.toArray Q (H w0 LS) bars f (marks.setIfInBounds i true) a w) (fun a w h => h)
  refine wp_panics ?_ h2
  intro e a w hne hq
  cases e <;> first | exact hq | exact absurd rfl hne
theorem WB.one (i : Nat) {o : Oper} (hr : Region.ready .any l.toArray marks = [i]) (ho : l[i]? = some o) (hg : o.guard = none) (h : WL1 P n w0 l.toArray (fun E' L' => (barred bars (marks.setIfInBounds i true) = true ∨ Imp L' LS) ∧ WB P n w0 l K LS bars f (marks.setIfInBounds i true) E' L') o [] E L) : WB P n w0 l K LS bars (f + 1) marks E L :=
  WB.all hr (by simp) fun j hj => by
    obtain rfl : j = i := by simpa using hj
    exact ⟨o, ho, hg, h⟩
theorem WB.two (i j : Nat) {o o' : Oper} (hr : Region.ready .any l.toArray marks = [i, j]) (ho : l[i]? = some o) (ho' : l[j]? = some o') (hg : o.guard = none) (hg' : o'.guard = none) (h : WL1 P n w0 l.toArray (fun E' L' => (barred bars (marks.setIfInBounds i true) = true ∨ Imp L' LS) ∧ WB P n w0 l K LS bars f (marks.setIfInBounds i true) E' L') o [] E L)
    (h' : WL1 P n w0 l.toArray (fun E' L' => (barred bars (marks.setIfInBounds j true) = true ∨ Imp L' LS) ∧ WB P n w0 l K LS bars f (marks.setIfInBounds j true) E' L') o' [] E L) : WB P n w0 l K LS bars (f + 1) marks E L :=
  WB.all hr (by simp) fun k hk => by
    rcases List.mem_cons.1 hk with rfl | hk
    · exact ⟨o, ho, hg, h⟩
    · obtain rfl : k = j := by simpa using hk
      exact ⟨o', ho', hg', h'⟩
end
theorem Imp.pick {A : Asrt} {L L1 M : List Asrt} (hT : Take A L L1) (h : Imp L1 M) : Imp L (A :: M) := (Imp.perm hT.perm).trans (Imp.cons h)
end Go.Proofs.YtdcijljfgcjelaaGreat
namespace Go.Proofs.YtdcijljfgcjelaaGreat
set_option maxRecDepth 20000
open Go.RowKit
section
variable {P : Program} {n : Fr} {w0 : World} {E : Env} {L : List Asrt} {Q : Exit → Post}
theorem WC.loopF {c : Code} {γ : Type} (VI : γ → List (Nat × Value)) (LI : γ → List Asrt) (pre : γ → Prop) (μ : γ → Nat) (g : γ) (hE : Agree E (VI g)) (hL : Imp L (LI g)) (hp : pre g)
    (round : ∀ g U, pre g → WC P n w0 c (seqQ (fun E' L' => ∃ g', Agree E' (VI g') ∧ Imp L' (LI g') ∧ pre g' ∧ μ g' < μ g) Q) (sets U (VI g)) (LI g)) : WC P n w0 (.loop c) Q E L := by
  intro w hw
  refine wpIn_loop_ghost (Q := liftQ n w0 Q) (fun k a w => ∃ g U, μ g = k ∧ a = actOf n (sets U (VI g)) ∧ H w0 (LI g) w ∧ pre g) (μ g) ⟨g, E, rfl, ?_, hL.h hw, hp⟩ ?_
  · rw [sets_same hE]
  · rintro k a w' ⟨g, U, rfl, rfl, hH, hp'⟩
    refine wpIn_mono (round g U hp' w' hH) ?_
    intro e a' w'' hq
    cases e with
    | normal =>
      obtain ⟨E', L', rfl, hH', g', ha, hs, hp'', hm⟩ := hq
      exact ⟨μ g', hm, g', E', rfl, by rw [sets_same ha], hs.h hH', hp''⟩
    | _ => exact hq
theorem WC.seqF {x y : Code} {γ : Type} (VI : γ → List (Nat × Value)) (LI : γ → List Asrt) (pre : γ → Prop) (h1 : WC P n w0 x (seqQ (fun E' L' => ∃ g, Agree E' (VI g) ∧ Imp L' (LI g) ∧ pre g) Q) E L)
    (h2 : ∀ g U, pre g → WC P n w0 y Q (sets U (VI g)) (LI g)) : WC P n w0 (.seq x y) Q E L := by
  refine WC.seq fun K hK w hw => wpMono ?_ (h1 w hw)
  intro e a w' hq
  cases e with
  | normal =>
    obtain ⟨E', L', rfl, hH, g, ha, hs, hp⟩ := hq
    refine ⟨E', LI g, rfl, hs.h hH, hK _ _ ?_⟩
    have := h2 g E' hp
    rwa [sets_same ha] at this
  | _ => exact hq
theorem WC.loopF2 {c : Code} {α β : Type} (VI : α → β → List (Nat × Value)) (LI : α → β → List Asrt) (pre : α → β → Prop) (μ : α → β → Nat) (g0 : α) (g1 : β) (hE : Agree E (VI g0 g1)) (hL : Imp L (LI g0 g1)) (hp : pre g0 g1)
    (round : ∀ h0 h1 U, pre h0 h1 → WC P n w0 c (seqQ (fun E' L' => ∃ g0 g1, Agree E' (VI g0 g1) ∧ Imp L' (LI g0 g1) ∧ pre g0 g1 ∧ μ g0 g1 < μ h0 h1) Q) (sets U (VI h0 h1)) (LI h0 h1)) : WC P n w0 (.loop c) Q E L :=
  WC.loopF (γ := α × β) (fun g => VI g.1 g.2) (fun g => LI g.1 g.2) (fun g => pre g.1 g.2) (fun g => μ g.1 g.2) (g0, g1) hE hL hp fun g U hpre w hw => wpMono (by
    intro e a w' hq
    cases e with
    | normal => obtain ⟨E', L', rfl, hH, g0, g1, h⟩ := hq; exact ⟨E', L', rfl, hH, (g0, g1), h⟩
    | _ => exact hq) (round g.1 g.2 U hpre w hw)
theorem WC.loopF3 {c : Code} {α β γ : Type} (VI : α → β → γ → List (Nat × Value)) (LI : α → β → γ → List Asrt) (pre : α → β → γ → Prop) (μ : α → β → γ → Nat) (g0 : α) (g1 : β) (g2 : γ) (hE : Agree E (VI g0 g1 g2)) (hL : Imp L (LI g0 g1 g2)) (hp : pre g0 g1 g2)
    (round : ∀ h0 h1 h2 U, pre h0 h1 h2 → WC P n w0 c (seqQ (fun E' L' => ∃ g0 g1 g2, Agree E' (VI g0 g1 g2) ∧ Imp L' (LI g0 g1 g2) ∧ pre g0 g1 g2 ∧ μ g0 g1 g2 < μ h0 h1 h2) Q) (sets U (VI h0 h1 h2)) (LI h0 h1 h2)) : WC P n w0 (.loop c) Q E L :=
  WC.loopF (γ := α × β × γ) (fun g => VI g.1 g.2.1 g.2.2) (fun g => LI g.1 g.2.1 g.2.2) (fun g => pre g.1 g.2.1 g.2.2) (fun g => μ g.1 g.2.1 g.2.2) (g0, g1, g2) hE hL hp fun g U hpre w hw => wpMono (by
    intro e a w' hq
    cases e with
    | normal => obtain ⟨E', L', rfl, hH, g0, g1, g2, h⟩ := hq; exact ⟨E', L', rfl, hH, (g0, g1, g2), h⟩
    | _ => exact hq) (round g.1 g.2.1 g.2.2 U hpre w hw)
theorem WC.loopF4 {c : Code} {α β γ δ : Type} (VI : α → β → γ → δ → List (Nat × Value)) (LI : α → β → γ → δ → List Asrt) (pre : α → β → γ → δ → Prop) (μ : α → β → γ → δ → Nat) (g0 : α) (g1 : β) (g2 : γ) (g3 : δ) (hE : Agree E (VI g0 g1 g2 g3)) (hL : Imp L (LI g0 g1 g2 g3)) (hp : pre g0 g1 g2 g3)
    (round : ∀ h0 h1 h2 h3 U, pre h0 h1 h2 h3 → WC P n w0 c (seqQ (fun E' L' => ∃ g0 g1 g2 g3, Agree E' (VI g0 g1 g2 g3) ∧ Imp L' (LI g0 g1 g2 g3) ∧ pre g0 g1 g2 g3 ∧ μ g0 g1 g2 g3 < μ h0 h1 h2 h3) Q) (sets U (VI h0 h1 h2 h3)) (LI h0 h1 h2 h3)) : WC P n w0 (.loop c) Q E L :=
  WC.loopF (γ := α × β × γ × δ) (fun g => VI g.1 g.2.1 g.2.2.1 g.2.2.2) (fun g => LI g.1 g.2.1 g.2.2.1 g.2.2.2) (fun g => pre g.1 g.2.1 g.2.2.1 g.2.2.2) (fun g => μ g.1 g.2.1 g.2.2.1 g.2.2.2) (g0, g1, g2, g3) hE hL hp fun g U hpre w hw => wpMono (by
    intro e a w' hq
    cases e with
    | normal => obtain ⟨E', L', rfl, hH, g0, g1, g2, g3, h⟩ := hq; exact ⟨E', L', rfl, hH, (g0, g1, g2, g3), h⟩
    | _ => exact hq) (round g.1 g.2.1 g.2.2.1 g.2.2.2 U hpre w hw)
theorem WC.loopF5 {c : Code} {α β γ δ ε : Type} (VI : α → β → γ → δ → ε → List (Nat × Value)) (LI : α → β → γ → δ → ε → List Asrt) (pre : α → β → γ → δ → ε → Prop) (μ : α → β → γ → δ → ε → Nat) (g0 : α) (g1 : β) (g2 : γ) (g3 : δ) (g4 : ε) (hE : Agree E (VI g0 g1 g2 g3 g4)) (hL : Imp L (LI g0 g1 g2 g3 g4)) (hp : pre g0 g1 g2 g3 g4)
    (round : ∀ h0 h1 h2 h3 h4 U, pre h0 h1 h2 h3 h4 → WC P n w0 c (seqQ (fun E' L' => ∃ g0 g1 g2 g3 g4, Agree E' (VI g0 g1 g2 g3 g4) ∧ Imp L' (LI g0 g1 g2 g3 g4) ∧ pre g0 g1 g2 g3 g4 ∧ μ g0 g1 g2 g3 g4 < μ h0 h1 h2 h3 h4) Q) (sets U (VI h0 h1 h2 h3 h4)) (LI h0 h1 h2 h3 h4)) : WC P n w0 (.loop c) Q E L :=
  WC.loopF (γ := α × β × γ × δ × ε) (fun g => VI g.1 g.2.1 g.2.2.1 g.2.2.2.1 g.2.2.2.2) (fun g => LI g.1 g.2.1 g.2.2.1 g.2.2.2.1 g.2.2.2.2) (fun g => pre g.1 g.2.1 g.2.2.1 g.2.2.2.1 g.2.2.2.2) (fun g => μ g.1 g.2.1 g.2.2.1 g.2.2.2.1 g.2.2.2.2) (g0, g1, g2, g3, g4) hE hL hp fun g U hpre w hw => wpMono (by
    intro e a w' hq
    cases e with
    | normal => obtain ⟨E', L', rfl, hH, g0, g1, g2, g3, g4, h⟩ := hq; exact ⟨E', L', rfl, hH, (g0, g1, g2, g3, g4), h⟩
    | _ => exact hq) (round g.1 g.2.1 g.2.2.1 g.2.2.2.1 g.2.2.2.2 U hpre w hw)
end
end Go.Proofs.YtdcijljfgcjelaaGreat
namespace Go.Proofs.YtdcijljfgcjelaaGreat
set_option maxRecDepth 20000
open Go.RowKit
section
variable {P : Program} {n : Fr} {w0 : World} {E : Env} {L : List Asrt} {C : World → Prop} {o : Oper}
def plT (P : Program) (t : TypeId) (i : Nat) : Option (Nat × Nat) :=
  match P.underlying t with
  | some (.struct fs) => (fs[i]?).bind fun fd => (szT P fd.type).map fun s => (fd.offset, s)
  | _ => none
def allSz (P : Program) (t : TypeId) : Bool :=
  match P.underlying t with
  | some (.struct fs) => fs.toList.all fun fd => (szT P fd.type).isSome
  | _ => false
def spls (place : Nat → Option (Nat × Nat)) (cs : List Value) : List (Nat × List Value) → List Value
  | [] => cs
  | (i, v) :: r => match place i with | some (off, _) => spls place (spl cs off v) r | none => cs
theorem spl_len {xs vs : List Value} {k : Nat} (h : k + vs.length ≤ xs.length) : (spl xs k vs).length = xs.length := by
  unfold spl; simp; omega
theorem fill_spls {place : Nat → Option (Nat × Nat)} : ∀ (vs : List (Nat × Value)) (us : List (Nat × List Value)) (cs : List Value), (vs.map fun p => (p.1, p.2.cells.toList)) = us → (∀ p ∈ us, ∃ off sz, place p.1 = some (off, sz) ∧ p.2.length = sz ∧ off + sz ≤ cs.length) →
    Instr.fill place cs.toArray vs = some (spls place cs us).toArray
  | [], _, cs, hu, _ => by subst hu; rfl
  | (i, v) :: vs, _, cs, hu, h => by
    subst hu
    obtain ⟨off, sz, h1, h2, h3⟩ := h (i, v.cells.toList) (by simp)
    have h1' : place i = some (off, sz) := h1
    rw [fill_one (sz := sz) h1' (by simpa using h2) (by simpa using h3), List.map_cons, spls]
    simp only [h1']
    have e : cs.toArray.toList.take off ++ v.cells.toList ++ cs.toArray.toList.drop (off + sz) = spl cs off v.cells.toList := by
      unfold spl; rw [← h2]
    rw [e]
    have hl : (spl cs off v.cells.toList).length = cs.length := spl_len (by rw [show v.cells.toList.length = sz from h2]; exact h3)
    exact fill_spls vs _ _ rfl fun p hp => by obtain ⟨a, b, c1, c2, c3⟩ := h p (by simp only [List.map_cons, List.mem_cons]; exact .inr hp); exact ⟨a, b, c1, c2, by rw [hl]; exact c3⟩
theorem run_placesS {fs : Array Field} {w : World} (h : (fs.toList.all fun fd => (szT P fd.type).isSome) = true) :
    ∃ pl : Array (Nat × Nat), (fs.mapM (fun f => do pure (f.offset, ← sizeOf f.type) : Field → Sem (Nat × Nat))).run P w = .ok pl w ∧ ∀ i : Nat, pl[i]? = (fs[i]?).bind fun fd : Field => (szT P fd.type).map fun s => (fd.offset, s) := by
  have key : ∀ (l : List Field), (∀ f ∈ l, (szT P f.type).isSome = true) → (l.mapM (fun f => do pure (f.offset, ← sizeOf f.type) : Field → Sem (Nat × Nat))).run P w = .ok (l.map fun f => (f.offset, (szT P f.type).getD 0)) w := by
    intro l
    induction l with
    | nil => intro _; rfl
    | cons f l ih =>
      intro hl
      have hf := hl f (by simp)
      cases hs : szT P f.type with
      | none => rw [hs] at hf; cases hf
      | some s =>
        rw [List.mapM_cons]
        simp only [Sem.run_bind, run_size hs, Result.andThen_ok, Sem.run_pure, ih fun g hg => hl g (by simp [hg]), List.map_cons, hs, Option.getD_some]
  have hall := List.all_eq_true.1 h
  refine ⟨(fs.toList.map fun f => (f.offset, (szT P f.type).getD 0)).toArray, ?_, fun i => ?_⟩
  · rw [Array.mapM_eq_mapM_toList]
    rw [← bind_pure_comp]
    simp only [Sem.run_bind, key fs.toList hall, Result.andThen_ok, Sem.run_pure]
  · cases hi : fs[i]? with
    | none => simp at hi; simp [hi]
    | some fd =>
      have hm : fd ∈ fs.toList := by rw [Array.mem_toList_iff]; exact Array.mem_of_getElem? hi
      have h2 := hall fd hm
      have : fs.toList[i]? = some fd := by simpa using hi
      cases hs : szT P fd.type with
      | none => rw [hs] at h2; cases h2
      | some s => simp [hi, hs]
theorem g_buildS {t : TypeId} {parts : List (Nat × Operand)} {vs : List (Nat × Value)} {us : List (Nat × List Value)} {z : Value} {zs cs : List Value} (ho : o.op = .build t parts.toArray) (hf : allSz P t = true) (hz : (P.info? t).map (·.zero) = some (some z)) (hzs : z.cells = zs.toArray)
    (hp : EvI n E parts vs) (hu : (vs.map fun p => (p.1, p.2.cells.toList)) = us) (hok : ∀ p ∈ us, ∃ off sz, plT P t p.1 = some (off, sz) ∧ p.2.length = sz ∧ off + sz ≤ zs.length) (hr : spls (plT P t) zs us = cs) : Gives P n C o E (.agg cs.toArray) := fun w _ => by
  subst hr
  unfold allSz at hf
  cases hun : P.underlying t with
  | none => rw [hun] at hf; cases hf
  | some d =>
    rw [hun] at hf
    cases d with
    | struct fs =>
      obtain ⟨pl, hpl, hpl2⟩ := run_placesS (P := P) (w := w) hf
      have hplt : (fun j => pl[j]?) = plT P t := by
        funext j; rw [hpl2, plT, hun]
      cases hi : P.info? t with
      | none => rw [hi] at hz; cases hz
      | some i =>
        rw [hi] at hz
        simp at hz
        have hfill := fill_spls (place := fun j => pl[j]?) vs us zs hu fun p hp => by obtain ⟨a, b, c1, c2, c3⟩ := hok p hp; exact ⟨a, b, (congrFun hplt p.1).trans c1, c2, c3⟩
        have hm : (parts.toArray.map fun (i, x) => (i, (actOf n E).eval x)) = vs.toArray := by rw [List.map_toArray, hp.map]
        unfold execOp
        rw [← hplt]
        simp only [ho, hm, Instr.build, zeroValue, typeInfo, program, Sem.run_bind, Sem.run, Sem.run_pure, Result.andThen_ok, hi, hz, run_underlying hun, hpl, hzs, List.toList_toArray, hfill]
    | _ => cases hf
theorem g_buildArrS {t e : TypeId} {m sz : Nat} {parts : List (Nat × Operand)} {vs : List (Nat × Value)} {us : List (Nat × List Value)} {z : Value} {zs cs : List Value} (ho : o.op = .build t parts.toArray) (ht : P.underlying t = some (.array m e)) (he : szT P e = some sz) (hz : (P.info? t).map (·.zero) = some (some z)) (hzs : z.cells = zs.toArray)
    (hp : EvI n E parts vs) (hu : (vs.map fun p => (p.1, p.2.cells.toList)) = us) (hok : ∀ p ∈ us, p.2.length = sz ∧ p.1 * sz + sz ≤ zs.length) (hr : spls (fun i => some (i * sz, sz)) zs us = cs) : Gives P n C o E (.agg cs.toArray) := fun w _ => by
  subst hr
  cases hi : P.info? t with
  | none => rw [hi] at hz; cases hz
  | some i =>
    rw [hi] at hz
    simp at hz
    have hfill := fill_spls (place := fun j => some (j * sz, sz)) vs us zs hu fun p hp => ⟨_, _, rfl, hok p hp⟩
    have hm : (parts.toArray.map fun (i, x) => (i, (actOf n E).eval x)) = vs.toArray := by rw [List.map_toArray, hp.map]
    unfold execOp
    simp only [ho, hm, Instr.build, zeroValue, typeInfo, program, Sem.run_bind, Sem.run, Sem.run_pure, Result.andThen_ok, hi, hz, run_underlying ht, run_size he, hzs, List.toList_toArray, hfill]
theorem g_indexG {t e : TypeId} {x y : Operand} {cs : Array Value} {m j sz : Nat} {kk : IntKind} {z : Int} {us : List Value} (ho : o.op = .index t x y) (hx : Ev n E x (.agg cs)) (hy : Ev n E y (.int kk z)) (ht : P.underlying t = some (.array m e)) (h1 : aggT P e = true) (hs : szT P e = some sz)
    (hz : z = (j : Int)) (hj : j < m) (hle : j * sz + sz ≤ cs.size) (hu : (cs.toList.drop (j * sz)).take sz = us) : Gives P n C o E (.agg us.toArray) := fun w hw => by
  subst hu
  unfold Ev at hx hy; unfold execOp
  have e1 : (cs.extract (j * sz) (j * sz + sz)) = ((cs.toList.drop (j * sz)).take sz).toArray := by
    apply Array.ext'
    rw [Array.toList_extract]
    simp [List.extract]
  simp [ho, hx, hy, Instr.index, asIntOf, run_underlying ht, run_size hs, part, run_isAgg_agg h1, hz, hj, hle, e1]
end
section
variable {P : Program} {n : Fr} {w0 : World} {ops : Array Oper} {K : Post} {o : Oper} {rest : List Oper} {E : Env} {L : List Asrt}
theorem WL1.callVN {x : Operand} {args : List Operand} {ts : Array TypeId} {d : Option Tmp} {f : FuncId} {cap vals : List Value} {Φ : Value → List Asrt → Prop} (ho : o.op = .call { callee := .value x, args := args.toArray, argTypes := ts }) (hd : o.dst = d) (hx : Ev n E x (.func (.func f) #[] cap.toArray)) (hc : callable P f = true) (hv : Evs n E args vals)
    (h : ∀ w, H w0 L w → Calls P f (vals ++ cap).toArray w fun e w' => ∃ v M, e = .returned v ∧ H w M w' ∧ Φ v M) (k : ∀ v M, Φ v M → WL P n w0 ops K rest (E.put d v) (M ++ L)) : WL1 P n w0 ops K o rest E L :=
  WL1.callVF ho hd hx hc hv (Φ := fun v L' => ∃ M, L' = M ++ L ∧ Φ v M) (fun w hw => (h w hw).mono fun _ _ ⟨v, M, he, hM, hΦ⟩ => ⟨v, M ++ L, he, hw.join hM, M, rfl, hΦ⟩) fun v L' ⟨M, e, hΦ⟩ => by subst e; exact k v M hΦ
theorem subA_zero (g c sz : Nat) : subA (some ⟨g, 0, none⟩) c 0 sz = some ⟨g, 0, none⟩ := by
  unfold subA
  by_cases h : c = 0
  · rw [if_pos h]
  · rw [if_neg h, Nat.zero_mul]; rfl
end
end Go.Proofs.YtdcijljfgcjelaaGreat
namespace Go.Proofs.YtdcijljfgcjelaaGreat
set_option maxRecDepth 20000
open Go.RowKit
abbrev u64 (x : Nat) : Value := .int .u64 (x : Int)
abbrev u8s (l : List Nat) : List Value := l.map fun n : Nat => .int .u8 (n : Int)
theorem u8s_len (l : List Nat) : (u8s l).length = l.length := List.length_map ..
theorem u8s_get {l : List Nat} {k : Nat} (h : k < l.length) : (u8s l)[k]? = some (.int .u8 (nth l k : Nat)) := by
  rw [List.getElem?_map, List.getElem?_eq_getElem h, nth_eq h]; rfl
theorem b64 (x : Nat) (h : x < 2 ^ 64) : (BitVec.ofInt 64 (x : Int)).toNat = x := by
  rw [BitVec.ofInt_natCast, BitVec.toNat_ofNat, Nat.mod_eq_of_lt h]
theorem u64n (x : Nat) (h : x < 2 ^ 64) : IntKind.u64.wrap (x : Int) = x := IntWalk.u64_in _ ⟨by omega, by omega⟩
theorem u64_xor (x y : Nat) (hx : x < 2 ^ 64) (hy : y < 2 ^ 64) : IntKind.u64.wrap ((BitVec.ofInt IntKind.u64.bits (x : Int) ^^^ BitVec.ofInt IntKind.u64.bits (y : Int)).toNat : Int) = ((x ^^^ y : Nat) : Int) := by
  rw [show IntKind.u64.bits = 64 from rfl, BitVec.toNat_xor, b64 x hx, b64 y hy, u64n _ (Nat.xor_lt_two_pow hx hy)]
theorem u64_and1 (x : Nat) (hx : x < 2 ^ 64) : IntKind.u64.wrap ((BitVec.ofInt IntKind.u64.bits (x : Int) &&& BitVec.ofInt IntKind.u64.bits 1).toNat : Int) = ((x % 2 : Nat) : Int) := by
  rw [show IntKind.u64.bits = 64 from rfl, BitVec.toNat_and, b64 x hx, show (BitVec.ofInt 64 1).toNat = 1 from rfl, Nat.and_one_is_mod, u64n _ (by omega)]
theorem u64_shr (x : Nat) {z : Int} (i : Nat) (hz : z = (i : Int)) (hi : i ≤ 64) : (x : Int).fdiv (2 ^ (min z.toNat IntKind.u64.bits)) = ((x / 2 ^ i : Nat) : Int) := by
  subst hz
  rw [Int.toNat_natCast, show IntKind.u64.bits = 64 from rfl, Nat.min_eq_left hi, Int.fdiv_eq_ediv_of_nonneg _ (by exact_mod_cast Nat.zero_le _)]
  push_cast
  rfl
@[irreducible] def cnot (x : Nat) : Nat := (2 ^ 64 - 1) ^^^ x
theorem cnot_lt {x : Nat} (h : x < 2 ^ 64) : cnot x < 2 ^ 64 := by unfold cnot; exact Nat.xor_lt_two_pow (by decide) h
theorem cnot_inj {x y : Nat} (h : cnot x = cnot y) : x = y := by unfold cnot at h; exact cxor_canc' h
theorem u64_not (x : Nat) (hx : x < 2 ^ 64) : IntKind.u64.wrap ((BitVec.ofInt IntKind.u64.bits (if IntKind.u64.signed then -1 else IntKind.u64.max) ^^^ BitVec.ofInt IntKind.u64.bits (x : Int)).toNat : Int) = ((cnot x : Nat) : Int) := by
  have e : (BitVec.ofInt IntKind.u64.bits (if IntKind.u64.signed then -1 else IntKind.u64.max)).toNat = 2 ^ 64 - 1 := by decide
  rw [BitVec.toNat_xor, e, show IntKind.u64.bits = 64 from rfl, b64 x hx]
  unfold cnot
  exact u64n _ (Nat.xor_lt_two_pow (by decide) hx)
section
variable {P : Program} {n : Fr} {w0 : World} {ops : Array Oper} {K : Post} {o : Oper} {rest : List Oper} {E : Env} {L L' : List Asrt} {C : World → Prop}
theorem g_com {t : TypeId} {x : Operand} {k : IntKind} {a r : Int} (ho : o.op = .unOp .xor t x) (hx : Ev n E x (.int k a)) (hr : k.wrap (BitVec.ofInt k.bits (if k.signed then -1 else k.max) ^^^ BitVec.ofInt k.bits a).toNat = r) : Gives P n C o E (.int k r) := fun w _ => by
  unfold Ev at hx; unfold execOp; subst hr; simp [ho, hx, Op.unary, Op.intBits]
theorem WL1.copyPt {x y : Operand} {t t' e T : TypeId} {d : Option Tmp} {g off c m k : Nat} {src : Value} {cur news : List Value} (ht : P.underlying t = some (.slice e)) (hs1 : szT P e = some 1)
    (ho : o.op = .call { callee := .builtin .copy, args := #[x, y], argTypes := #[t, t'] }) (hd : o.dst = d) (hx : Ev n E x (.slice (some ⟨g, off, none⟩) m c)) (hy : Ev n E y src) (h0 : 0 < k) (hkm : k ≤ m) (hl : off + m ≤ cur.length)
    (hsl : ∀ w, H w0 L w → Sl w 1 src k news) (h1 : ∀ u ∈ news, u.oneCell' = true) (hs : Swap (pt g T cur) (pt g T (spl cur off news)) L L')
    (h : WL P n w0 ops K rest (E.put d (.int .i64 k)) L') : WL1 P n w0 ops K o rest E L := fun w hw Q hQ K' hK => by
  have hb : w.heap[g]? = some (.cells cur.toArray T (0, 0)) := (hw.2.in_ _ hs.mem).1
  obtain ⟨e1, A2, c2, rfl, hc2, hm2, hcell⟩ := hsl w hw
  obtain ⟨ad, rfl, hadl, hcs⟩ := hcell h0
  rw [Nat.mul_one] at e1
  have hsz : (P.info? e).map (·.size) = some 1 := hs1
  have hrun := run_copy_row (P := P) w t t' o.type e g off m c ad k c2 cur.toArray T news ht hsz hb (by show news.length = min k m; rw [Nat.min_eq_left hkm]; exact e1) hcs (by simp; omega) h1
  unfold Ev at hx hy
  unfold Oper.wp execOp
  simp only [ho, resolve, invoke, builtin, Sem.run_bind, Sem.run_pure, Result.andThen_ok, List.map_toArray, List.map_cons, List.map_nil, hx, hy, hrun]
  show K' _ _
  rw [actOf_put, hd]
  have hgo : goInt news.length = .int .i64 k := by rw [e1]; rfl
  rw [hgo]
  refine hK _ _ (h _ ?_ Q hQ)
  exact hw.swapped hs (by simp) rfl rfl rfl (fun _ h => h) (fun i hi => setRow_other _ _ _ _ hi) (setRow_pt hb)
end
attribute [local irreducible] cstep csteps cupd
set_option maxHeartbeats 1000000 in
theorem step_e (x : Nat) (w : World) (hx : x < 2 ^ 64) : Calls Tryz.prog 177 #[u64 x] w fun e w' => e = .returned (u64 (cstep x)) ∧ Below w.heap.size w w' := by
  have h1 := u64_and1 x hx
  have h2 := u64_shr x (z := 1) 1 rfl (by omega)
  rw [Nat.pow_one] at h2
  have h3 := u64_xor (x / 2) 14514072000185962306 (by omega) (by decide)
  by_cases e : x % 2 = 1
  · have hc : cstep x = x / 2 ^^^ 14514072000185962306 := by unfold cstep; rw [if_pos e]; rfl
    rw [e] at h1
    rw [← hc] at h3
    refine calls_wc (args := [u64 x]) [2] [] Tryz.func177 rfl Tryz.ntmps177 rfl rfl rfl rfl (H.refl _) ?_
    refine WC.seq fun K hK => ?_
    refine WC.region rfl ?_
    refine wAI rfl rfl rfl rfl rfl ?_
    refine WL.nil (hK _ _ ?_); clear hK
    refine WC.seq fun K hK => ?_
    refine WC.seq fun K hK => ?_
    refine WC.region rfl ?_
    refine wMI rfl rfl rfl rfl rfl ?_
    refine wG rfl rfl (g_and rfl (.mk rfl rfl) (.mk rfl rfl) h1) ?_
    refine wG rfl rfl (g_eq rfl (.mk rfl rfl) (.mk rfl rfl) (decide_eq_true (by omega))) ?_
    refine WL.nil (hK _ _ ?_); clear hK
    refine WC.cond_true (.mk rfl rfl) ?_
    refine WC.seq fun K hK => ?_
    refine WC.region rfl ?_
    refine wMI rfl rfl rfl rfl rfl ?_
    refine wG rfl rfl (g_shr rfl (.mk rfl rfl) (.mk rfl rfl) (by omega) h2) ?_
    refine wG rfl rfl (g_xor rfl (.mk rfl rfl) (.mk rfl rfl) h3) ?_
    refine wAI rfl rfl rfl rfl rfl ?_
    refine WL.nil (hK _ _ ?_); clear hK
    refine WC.ret ?_
    exact fun w' hw' => ⟨rfl, hw'.1⟩
  · have hc : cstep x = x / 2 := by unfold cstep; rw [if_neg e]
    rw [show x % 2 = 0 from by omega] at h1
    rw [← hc] at h2
    refine calls_wc (args := [u64 x]) [2] [] Tryz.func177 rfl Tryz.ntmps177 rfl rfl rfl rfl (H.refl _) ?_
    refine WC.seq fun K hK => ?_
    refine WC.region rfl ?_
    refine wAI rfl rfl rfl rfl rfl ?_
    refine WL.nil (hK _ _ ?_); clear hK
    refine WC.seq fun K hK => ?_
    refine WC.seq fun K hK => ?_
    refine WC.region rfl ?_
    refine wMI rfl rfl rfl rfl rfl ?_
    refine wG rfl rfl (g_and rfl (.mk rfl rfl) (.mk rfl rfl) h1) ?_
    refine wG rfl rfl (g_eq rfl (.mk rfl rfl) (.mk rfl rfl) (decide_eq_false (by omega))) ?_
    refine WL.nil (hK _ _ ?_); clear hK
    refine WC.cond_false (.mk rfl rfl) ?_
    refine WC.skip ?_
    (refine hK _ _ ?_; clear hK)
    refine WC.seq fun K hK => ?_
    refine WC.region rfl ?_
    refine wMI rfl rfl rfl rfl rfl ?_
    refine wG rfl rfl (g_shr rfl (.mk rfl rfl) (.mk rfl rfl) (by omega) h2) ?_
    refine wAI rfl rfl rfl rfl rfl ?_
    refine WL.nil (hK _ _ ?_); clear hK
    refine WC.ret ?_
    exact fun w' hw' => ⟨rfl, hw'.1⟩
theorem cupd_snoc : ∀ (l : List Nat) (x c : Nat), cupd x (l ++ [c]) = cbyte (cupd x l ^^^ c)
  | [], x, c => by rw [List.nil_append, cupd, cupd, cupd]
  | d :: l, x, c => by rw [List.cons_append, cupd, cupd, cupd_snoc l]
theorem cbyte_lt {x : Nat} (h : x < 2 ^ 64) : cbyte x < 2 ^ 64 := by rw [cbyte_eq]; exact csteps_lt 8 h
theorem cupd_lt : ∀ (l : List Nat) {x : Nat}, x < 2 ^ 64 → (∀ c ∈ l, c < 256) → cupd x l < 2 ^ 64
  | [], x, h, _ => by rw [cupd]; exact h
  | c :: l, x, h, hc => by
    rw [cupd]
    exact cupd_lt l (cbyte_lt (Nat.xor_lt_two_pow h (Nat.lt_of_lt_of_le (hc c (List.mem_cons_self ..)) (by decide)))) fun d hd => hc d (List.mem_cons_of_mem _ hd)
theorem csteps_one (y : Nat) : csteps 1 y = cstep y := by rw [csteps, csteps]
theorem csteps_next (j y : Nat) : cstep (csteps j y) = csteps (j + 1) y := by rw [csteps_add, csteps_one]
theorem csteps_zero (y : Nat) : csteps 0 y = y := by rw [csteps]
theorem cupd_zero (x : Nat) : cupd x [] = x := by rw [cupd]
theorem takeS_snoc {α : Type} [Inhabited α] {l : List α} {k : Nat} (h : k < l.length) : l.take (k + 1) = l.take k ++ [nth l k] := by rw [List.take_add_one, nth_get h]; rfl
theorem nthS_mem {α : Type} [Inhabited α] {l : List α} {k : Nat} (h : k < l.length) : nth l k ∈ l := by rw [nth_eq h]; exact List.getElem_mem h
set_option maxHeartbeats 1000000 in
theorem update_e (v : Value) (s : Nat) (bs : List Nat) (w : World) (hs : s < 2 ^ 64) (hb : ∀ c ∈ bs, c < 256) (hv : Sl w 1 v bs.length (u8s bs)) : Calls Tryz.prog 133 #[u64 s, v] w fun e w' => e = .returned (u64 (cnot (cupd (cnot s) bs))) ∧ Below w.heap.size w w' := by
  obtain ⟨A, c, rfl, hc, hm, hsl⟩ := hv.open_
  unfold maxLen at hm
  have h1 := u64_not s hs
  have hn := cnot_lt hs
  obtain ⟨x, hx⟩ : ∃ x, x = cnot s := ⟨_, rfl⟩
  rw [← hx] at h1 hn ⊢
  have h0 : cupd x (bs.take 0) = x := by rw [List.take_zero]; exact cupd_zero x
  have hbt : ∀ i, cupd x (bs.take i) < 2 ^ 64 := fun i => cupd_lt _ hn fun c hc => hb c (List.mem_of_mem_take hc)
  refine calls_wc (args := [u64 s, .slice A bs.length c]) [4] [] Tryz.func133 rfl Tryz.ntmps133 rfl rfl rfl rfl (H.refl _) ?_
  refine WC.seq fun K hK => ?_
  refine WC.region rfl ?_
  refine wAI rfl rfl rfl rfl rfl ?_
  refine WL.nil (hK _ _ ?_); clear hK
  refine WC.seq fun K hK => ?_
  refine WC.region rfl ?_
  refine wMI rfl rfl rfl rfl rfl ?_
  refine wG rfl rfl (g_com rfl (.mk rfl rfl) h1) ?_
  refine wAI rfl rfl rfl rfl rfl ?_
  refine WL.nil (hK _ _ ?_); clear hK
  refine WC.seq fun K hK => ?_
  refine WC.seq fun K hK => ?_
  refine WC.region rfl ?_
  refine wMS rfl rfl rfl rfl rfl ?_
  refine wG rfl rfl (g_len rfl (.mk rfl rfl) rfl) ?_
  refine wMI rfl rfl rfl rfl rfl ?_
  refine WL.nil (hK _ _ ?_); clear hK
  refine WC.block ?_
  refine WC.loopF (fun i : Nat => [(12, iv i), (11, iv bs.length), (10, .slice A bs.length c), (5, u64 (cupd x (bs.take i)))]) (fun _ => []) (fun i => i ≤ bs.length) (fun i => bs.length - i) 0 ⟨rfl, rfl, rfl, by rw [h0]; rfl, trivial⟩ (Imp.nil _) (by omega) ?_
  intro i U hi
  by_cases hlt : i < bs.length
  · have hgv := u8s_get hlt
    have hcb := hb _ (nthS_mem hlt)
    have hts := takeS_snoc hlt
    have hnx : cupd x (bs.take (i + 1)) = cbyte (cupd x (bs.take i) ^^^ nth bs i) := by rw [hts, cupd_snoc]
    have hy := hbt i
    obtain ⟨y, hye⟩ : ∃ y, y = cupd x (bs.take i) := ⟨_, rfl⟩
    rw [← hye] at hnx hy ⊢
    have hcv : IntKind.u64.wrap ((nth bs i : Nat) : Int) = ((nth bs i : Nat) : Int) := u64n _ (by omega)
    have hxr := u64_xor y (nth bs i) hy (by omega)
    have hzl : y ^^^ nth bs i < 2 ^ 64 := Nat.xor_lt_two_pow hy (by omega)
    obtain ⟨z, hz⟩ : ∃ z, z = y ^^^ nth bs i := ⟨_, rfl⟩
    rw [← hz] at hxr hnx hzl
    have h8 : cbyte z = csteps 8 z := cbyte_eq z
    refine WC.seq fun K hK => ?_
    refine WC.region rfl ?_
    refine wG rfl rfl (g_lt rfl (.mk rfl rfl) (.mk rfl rfl) (decide_eq_true (by omega))) ?_
    refine WL.nil (hK _ _ ?_); clear hK
    refine WC.seq fun K hK => ?_
    refine WC.cond_true (.mk rfl rfl) ?_
    refine WC.skip ?_
    (refine hK _ _ ?_; clear hK)
    refine WC.seq fun K hK => ?_
    refine WC.block ?_
    refine WC.seq fun K hK => ?_
    refine WC.region rfl ?_
    refine wG rfl rfl (g_indexAddr (sz := 1) rfl (.mk rfl rfl) (.mk rfl rfl) rfl rfl rfl (by omega) (fun _ _ => sl_some hsl (by omega))) ?_
    refine wG rfl rfl (g_load rfl (.mk rfl rfl) rfl (rd_sl hsl (get1 (by omega)))) ?_
    refine wAI rfl rfl rfl rfl rfl ?_
    refine WL.nil (hK _ _ ?_); clear hK
    refine WC.seq fun K hK => ?_
    refine WC.region rfl ?_
    refine wMI rfl rfl rfl rfl rfl ?_
    refine wMI rfl rfl rfl rfl rfl ?_
    refine wG rfl rfl (g_conv rfl rfl rfl (.mk rfl rfl) hcv) ?_
    refine wG rfl rfl (g_xor rfl (.mk rfl rfl) (.mk rfl rfl) hxr) ?_
    refine wAI rfl rfl rfl rfl rfl ?_
    refine WL.nil (hK _ _ ?_); clear hK
    refine WC.seq fun K hK => ?_
    refine WC.region rfl ?_
    refine wMI rfl rfl rfl rfl rfl ?_
    refine WL.nil (hK _ _ ?_); clear hK
    refine WC.block ?_
    refine WC.loopF (fun j : Nat => [(20, iv j), (12, iv i), (11, iv bs.length), (10, .slice A bs.length c), (5, u64 (csteps j z))]) (fun _ => []) (fun j => j ≤ 8) (fun j => 8 - j) 0 ⟨rfl, rfl, rfl, rfl, by rw [csteps_zero]; rfl, trivial⟩ (Imp.nil _) (by omega) ?_
    intro j U2 hj
    by_cases hlt2 : j < 8
    · have hst := fun w' => step_e (csteps j z) w' (csteps_lt j hzl)
      simp only [csteps_next] at hst
      refine WC.seq fun K hK => ?_
      refine WC.region rfl ?_
      refine wG rfl rfl (g_lt rfl (.mk rfl rfl) (.mk rfl rfl) (decide_eq_true (by omega))) ?_
      refine WL.nil (hK _ _ ?_); clear hK
      refine WC.seq fun K hK => ?_
      refine WC.cond_true (.mk rfl rfl) ?_
      refine WC.skip ?_
      (refine hK _ _ ?_; clear hK)
      refine WC.seq fun K hK => ?_
      refine WC.block ?_
      refine WC.region rfl ?_
      refine wMI rfl rfl rfl rfl rfl ?_
      refine WL.want rfl (WL1.callP rfl rfl rfl (.cons (.mk (v := .int _ _) rfl rfl) .nil) (fun w hw => hst w) ?_)
      refine wAI rfl rfl rfl rfl rfl ?_
      refine WL.nil (hK _ _ ?_); clear hK
      refine WC.region rfl ?_
      refine wG rfl rfl (g_add rfl (.mk rfl rfl) (.mk rfl rfl) (IntWalk.i64_in _ (by omega))) ?_
      refine wMI rfl rfl rfl rfl rfl ?_
      refine WL.nil ?_
      exact ⟨j + 1, ⟨rfl, rfl, rfl, rfl, rfl, trivial⟩, Imp.nil _, by omega, by omega⟩
    · obtain rfl : j = 8 := by omega
      refine WC.seq fun K hK => ?_
      refine WC.region rfl ?_
      refine wG rfl rfl (g_lt rfl (.mk rfl rfl) (.mk rfl rfl) (decide_eq_false (by omega))) ?_
      refine WL.nil (hK _ _ ?_); clear hK
      refine WC.seq fun K hK => ?_
      refine WC.cond_false (.mk rfl rfl) ?_
      refine WC.exit ?_
      (clear hK; refine hK _ _ ?_; clear hK)
      refine WC.region rfl ?_
      refine wG rfl rfl (g_add rfl (.mk rfl rfl) (.mk rfl rfl) (IntWalk.i64_in _ (by omega))) ?_
      refine wMI rfl rfl rfl rfl rfl ?_
      refine WL.nil ?_
      exact ⟨i + 1, ⟨rfl, rfl, rfl, by rw [hnx, h8]; rfl, trivial⟩, Imp.nil _, by omega, by omega⟩
  · obtain rfl : i = bs.length := by omega
    have hfin := u64_not _ (hbt bs.length)
    rw [List.take_length] at hfin ⊢
    refine WC.seq fun K hK => ?_
    refine WC.region rfl ?_
    refine wG rfl rfl (g_lt rfl (.mk rfl rfl) (.mk rfl rfl) (decide_eq_false (by omega))) ?_
    refine WL.nil (hK _ _ ?_); clear hK
    refine WC.seq fun K hK => ?_
    refine WC.cond_false (.mk rfl rfl) ?_
    refine WC.exit ?_
    (clear hK; refine hK _ _ ?_; clear hK)
    refine WC.seq fun K hK => ?_
    refine WC.region rfl ?_
    refine wMI rfl rfl rfl rfl rfl ?_
    refine wG rfl rfl (g_com rfl (.mk rfl rfl) hfin) ?_
    refine wAI rfl rfl rfl rfl rfl ?_
    refine WL.nil (hK _ _ ?_); clear hK
    refine WC.ret ?_
    exact fun w' hw' => ⟨rfl, hw'.1⟩
@[irreducible] def crcN (bs : List Nat) : Nat := cnot (cupd (cnot 0) bs)
theorem crcN_eq (bs : List Nat) : crcN bs = cnot (cupd (cnot 0) bs) := by unfold crcN; rfl
set_option maxHeartbeats 1000000 in
theorem crc_e (v : Value) (bs : List Nat) (w : World) (hb : ∀ c ∈ bs, c < 256) (hv : Sl w 1 v bs.length (u8s bs)) : Calls Tryz.prog 89 #[v] w fun e w' => e = .returned (u64 (crcN bs)) ∧ Below w.heap.size w w' := by
  have h := fun w' hb' => update_e v 0 bs w' (by decide) hb (hv.below (w' := w') hb')
  obtain ⟨A, c, rfl, hc, hm, hsl⟩ := hv.open_
  rw [← crcN_eq] at h
  refine calls_wc (args := [.slice A bs.length c]) [2] [] Tryz.func89 rfl Tryz.ntmps89 rfl rfl rfl rfl (H.refl _) ?_
  refine WC.seq fun K hK => ?_
  refine WC.region rfl ?_
  refine wAI rfl rfl rfl rfl rfl ?_
  refine WL.nil (hK _ _ ?_); clear hK
  refine WC.seq fun K hK => ?_
  refine WC.region rfl ?_
  refine wMS rfl rfl rfl rfl rfl ?_
  refine WL.want rfl (WL1.callP rfl rfl rfl (.cons (.mk (v := .int _ _) rfl rfl) (.cons (.mk (v := .slice _ _ _) rfl rfl) .nil)) (fun w hw => h w hw.1) ?_)
  refine wAI rfl rfl rfl rfl rfl ?_
  refine WL.nil (hK _ _ ?_); clear hK
  refine WC.ret ?_
  exact fun w' hw' => ⟨rfl, hw'.1⟩
def bytesOf (n x : Nat) : List Nat := (List.range n).map fun i => x / 2 ^ (8 * i) % 256
theorem bytesOf_len (n x : Nat) : (bytesOf n x).length = n := by simp [bytesOf]
theorem bytesOf_lt (n x : Nat) : ∀ c ∈ bytesOf n x, c < 256 := by
  intro c hc
  obtain ⟨i, _, rfl⟩ := List.mem_map.1 hc
  exact Nat.mod_lt _ (by decide)
theorem bytesOf_snoc (n x : Nat) : bytesOf (n + 1) x = bytesOf n x ++ [x / 2 ^ (8 * n) % 256] := by simp [bytesOf, List.range_succ]
theorem spl_snoc {cs xs : List Value} {off k : Nat} {v : Value} (h : off + xs.length < cs.length) (hk : k = off + xs.length) : (spl cs off xs).set k v = spl cs off (xs ++ [v]) := by
  subst hk
  unfold spl
  rw [List.append_assoc, List.set_append_right _ _ (by simp; omega), List.length_take, Nat.min_eq_left (by omega), Nat.add_sub_cancel_left, List.set_append_right _ _ (Nat.le_refl _), Nat.sub_self, List.length_append, List.append_assoc, List.append_assoc]
  congr 2
  cases hd : cs.drop (off + xs.length) with
  | nil => have := congrArg List.length hd; simp at this; omega
  | cons a t =>
    rw [List.set_cons_zero]
    show v :: t = v :: _
    congr 1
    rw [show off + (xs.length + [v].length) = (off + xs.length) + 1 from by simp; omega, ← List.drop_drop, hd]
    rfl
theorem spl_nil (cs : List Value) (off : Nat) : spl cs off [] = cs := by unfold spl; simp
set_option maxHeartbeats 2000000 in
theorem put_f {w0 w : World} {L0 : List Asrt} {T : TypeId} {b off n c x : Nat} {cs : List Value} (hn : n ≤ 8) (hoff : off + n ≤ cs.length) (hw : H w0 (pt b T cs :: L0) w) :
    Calls Tryz.prog 88 #[.slice (some ⟨b, off, none⟩) n c, u64 x] w fun e w' => ∃ v L', e = .returned v ∧ H w0 L' w' ∧ v = .tuple #[] ∧ L' = pt b T (spl cs off (u8s (bytesOf n x))) :: L0 := by
  have h0 : cs = spl cs off (u8s (bytesOf 0 x)) := (spl_nil cs off).symm
  refine calls_wc (args := [.slice (some ⟨b, off, none⟩) n c, u64 x]) [] (pt b T cs :: L0) Tryz.func88 rfl Tryz.ntmps88 rfl rfl rfl rfl hw ?_
  refine WC.seq fun K hK => ?_
  refine WC.region rfl ?_
  refine wMS rfl rfl rfl rfl rfl ?_
  refine wG rfl rfl (g_len rfl (.mk rfl rfl) rfl) ?_
  refine wMI rfl rfl rfl rfl rfl ?_
  refine WL.nil (hK _ _ ?_); clear hK
  refine WC.block ?_
  refine WC.loopF (fun i : Nat => [(7, iv i), (6, iv n), (0, .slice (some ⟨b, off, none⟩) n c), (1, u64 x)]) (fun i => pt b T (spl cs off (u8s (bytesOf i x))) :: L0) (fun i => i ≤ n) (fun i => n - i) 0 ⟨rfl, rfl, rfl, rfl, trivial⟩ (by rw [← h0]; exact Imp.refl _) (by omega) ?_
  intro i U hi
  have hbl := bytesOf_len i x
  have hul := u8s_len (bytesOf i x)
  have hsl : (spl cs off (u8s (bytesOf i x))).length = cs.length := spl_len (by rw [hul, hbl]; omega)
  by_cases hlt : i < n
  · have hq := u64_shr x (z := 8 * (i : Int)) (8 * i) (by omega) (by omega)
    obtain ⟨q, hqe⟩ : ∃ q, q = x / 2 ^ (8 * i) := ⟨_, rfl⟩
    rw [← hqe] at hq
    have hcv : IntKind.u8.wrap (q : Int) = ((q % 256 : Nat) : Int) := by rw [IntKind.wrap_u8]; omega
    have hst : ∀ k v, k = off + i → v = Value.int .u8 ((q % 256 : Nat) : Int) → (spl cs off (u8s (bytesOf i x))).set k v = spl cs off (u8s (bytesOf (i + 1) x)) := fun k v hk hv => by
      rw [spl_snoc (by rw [hul, hbl]; omega) (by rw [hul, hbl]; exact hk), bytesOf_snoc, hv]
      unfold u8s
      rw [List.map_append, hqe]
      rfl
    generalize spl cs off (u8s (bytesOf i x)) = ys at *
    refine WC.seq fun K hK => ?_
    refine WC.region rfl ?_
    refine wG rfl rfl (g_lt rfl (.mk rfl rfl) (.mk rfl rfl) (decide_eq_true (by omega))) ?_
    refine WL.nil (hK _ _ ?_); clear hK
    refine WC.seq fun K hK => ?_
    refine WC.cond_true (.mk rfl rfl) ?_
    refine WC.skip ?_
    (refine hK _ _ ?_; clear hK)
    refine WC.seq fun K hK => ?_
    refine WC.block ?_
    refine WC.seq fun K hK => ?_
    refine WC.region rfl ?_
    refine wMI rfl rfl rfl rfl rfl ?_
    refine wAI rfl rfl rfl rfl rfl ?_
    refine WL.nil (hK _ _ ?_); clear hK
    refine WC.region rfl ?_
    refine wMS rfl rfl rfl rfl rfl ?_
    refine wMI rfl rfl rfl rfl rfl ?_
    refine wMI rfl rfl rfl rfl rfl ?_
    refine wMI rfl rfl rfl rfl rfl ?_
    refine wG rfl rfl (g_mul rfl (.mk rfl rfl) (.mk rfl rfl) (IntWalk.i64_in _ (by omega))) ?_
    refine wG rfl rfl (g_shr rfl (.mk rfl rfl) (.mk rfl rfl) (by omega) hq) ?_
    refine wG rfl rfl (g_conv rfl rfl rfl (.mk rfl rfl) hcv) ?_
    refine wG rfl rfl (g_indexAddr (sz := 1) rfl (.mk rfl rfl) (.mk rfl rfl) rfl rfl rfl (by omega) (fun _ _ => rfl)) ?_
    refine WL.want rfl (WL1.store1 rfl rfl (.mk rfl rfl) (.mk (v := .int _ _) rfl rfl) rfl rfl (by first | omega | (simp; done) | (simp; omega)) (.head) ?_)
    refine WL.nil (hK _ _ ?_); clear hK
    refine WC.region rfl ?_
    refine wG rfl rfl (g_add rfl (.mk rfl rfl) (.mk rfl rfl) (IntWalk.i64_in _ (by omega))) ?_
    refine wMI rfl rfl rfl rfl rfl ?_
    refine WL.nil ?_
    refine ⟨i + 1, ⟨rfl, rfl, rfl, rfl, trivial⟩, ?_, by omega, by omega⟩
    rw [← hst (off + i * 1) _ (by omega) rfl]
    exact Imp.refl _
  · obtain rfl : i = n := by omega
    refine WC.seq fun K hK => ?_
    refine WC.region rfl ?_
    refine wG rfl rfl (g_lt rfl (.mk rfl rfl) (.mk rfl rfl) (decide_eq_false (by omega))) ?_
    refine WL.nil (hK _ _ ?_); clear hK
    refine WC.seq fun K hK => ?_
    refine WC.cond_false (.mk rfl rfl) ?_
    refine WC.exit ?_
    exact fun w' hw' => ⟨_, _, rfl, hw', rfl, rfl⟩
def pieceB (g p v : Nat) (d : Blk) : List Nat := bytesOf 4 g ++ bytesOf 4 p ++ bytesOf 8 v ++ d.l.map fun x => x.val
@[irreducible] def sumN (g p v : Nat) (d : Blk) : Nat := crcN (pieceB g p v d)
theorem blk_u8s (d : Blk) : d.cells = u8s (d.l.map fun x => x.val) := by
  show bvs d.l = _
  unfold u8s bvs
  rw [List.map_map]
  rfl
theorem list4 {α : Type} : ∀ {l : List α}, l.length = 4 → ∃ a b c d, l = [a, b, c, d]
  | [a, b, c, d], _ => ⟨a, b, c, d, rfl⟩
theorem list8 {α : Type} : ∀ {l : List α}, l.length = 8 → ∃ a b c d e f g h, l = [a, b, c, d, e, f, g, h]
  | [a, b, c, d, e, f, g, h], _ => ⟨a, b, c, d, e, f, g, h, rfl⟩
abbrev z24 : List Value := [.int .u8 0, .int .u8 0, .int .u8 0, .int .u8 0, .int .u8 0, .int .u8 0, .int .u8 0, .int .u8 0, .int .u8 0, .int .u8 0, .int .u8 0, .int .u8 0, .int .u8 0, .int .u8 0, .int .u8 0, .int .u8 0, .int .u8 0, .int .u8 0, .int .u8 0, .int .u8 0, .int .u8 0, .int .u8 0, .int .u8 0, .int .u8 0]
theorem spl24 {a b c d : List Nat} (ha : a.length = 4) (hb : b.length = 4) (hc : c.length = 8) (hd : d.length = 8) : spl (spl (spl (spl z24 0 (u8s a)) 4 (u8s b)) 8 (u8s c)) 16 (u8s d) = u8s (a ++ b ++ c ++ d) := by
  obtain ⟨a1, a2, a3, a4, rfl⟩ := list4 ha
  obtain ⟨b1, b2, b3, b4, rfl⟩ := list4 hb
  obtain ⟨c1, c2, c3, c4, c5, c6, c7, c8, rfl⟩ := list8 hc
  obtain ⟨d1, d2, d3, d4, d5, d6, d7, d8, rfl⟩ := list8 hd
  rfl
theorem pieceB_len (g p v : Nat) (d : Blk) : (pieceB g p v d).length = 24 := by
  unfold pieceB
  rw [List.length_append, List.length_append, List.length_append, bytesOf_len, bytesOf_len, bytesOf_len, List.length_map, d.h]
theorem pieceB_lt (g p v : Nat) (d : Blk) : ∀ c ∈ pieceB g p v d, c < 256 := by
  intro c hc
  unfold pieceB at hc
  rw [List.mem_append, List.mem_append, List.mem_append] at hc
  rcases hc with ((hc | hc) | hc) | hc
  · exact bytesOf_lt _ _ c hc
  · exact bytesOf_lt _ _ c hc
  · exact bytesOf_lt _ _ c hc
  · obtain ⟨x, _, rfl⟩ := List.mem_map.1 hc
    exact x.lt
set_option maxHeartbeats 4000000 in
theorem psum_e (g p v : Nat) (d : Blk) (w : World) (hg : g < 2 ^ 32) (hp : p < 2 ^ 32) : Calls Tryz.prog 35 #[iv g, iv p, u64 v, kv d] w fun e w' => e = .returned (u64 (sumN g p v d)) ∧ Below w.heap.size w w' := by
  have hc1 : IntKind.u64.wrap (g : Int) = (g : Int) := u64n _ (by omega)
  have hc2 : IntKind.u64.wrap (p : Int) = (p : Int) := u64n _ (by omega)
  have hfin := spl24 (bytesOf_len 4 g) (bytesOf_len 4 p) (bytesOf_len 8 v) (show (d.l.map fun x => x.val).length = 8 by rw [List.length_map, d.h])
  rw [← blk_u8s d] at hfin
  have l0 : (u8s (bytesOf 4 g)).length = 4 := by rw [u8s_len, bytesOf_len]
  have l1 : (u8s (bytesOf 4 p)).length = 4 := by rw [u8s_len, bytesOf_len]
  have l2 : (u8s (bytesOf 8 v)).length = 8 := by rw [u8s_len, bytesOf_len]
  have L1 : (spl z24 0 (u8s (bytesOf 4 g))).length = 24 := spl_len (by rw [l0]; decide)
  have L2 : (spl (spl z24 0 (u8s (bytesOf 4 g))) 4 (u8s (bytesOf 4 p))).length = 24 := (spl_len (by rw [l1, L1]; decide)).trans L1
  have L3 : (spl (spl (spl z24 0 (u8s (bytesOf 4 g))) 4 (u8s (bytesOf 4 p))) 8 (u8s (bytesOf 8 v))).length = 24 := (spl_len (by rw [l2, L2]; decide)).trans L2
  have hlen := pieceB_len g p v d
  have hlt := pieceB_lt g p v d
  have hul : (u8s (pieceB g p v d)).length = 24 := by rw [u8s_len, hlen]
  have hcrc := fun v' w' h => crc_e v' (pieceB g p v d) w' hlt h
  rw [hlen] at hcrc
  rw [show crcN (pieceB g p v d) = sumN g p v d from by unfold sumN; rfl] at hcrc
  have hb8 := Blk.len d
  have hfin : spl (spl (spl (spl z24 0 (u8s (bytesOf 4 g))) 4 (u8s (bytesOf 4 p))) 8 (u8s (bytesOf 8 v))) 16 d.cells = u8s (pieceB g p v d) := hfin
  obtain ⟨B, hB⟩ : ∃ B, B = u8s (pieceB g p v d) := ⟨_, rfl⟩
  rw [← hB] at hul hcrc hfin
  obtain ⟨c1, hc1e⟩ : ∃ c, c = spl z24 0 (u8s (bytesOf 4 g)) := ⟨_, rfl⟩
  rw [← hc1e] at hfin L1 L2 L3
  obtain ⟨c2, hc2e⟩ : ∃ c, c = spl c1 4 (u8s (bytesOf 4 p)) := ⟨_, rfl⟩
  rw [← hc2e] at hfin L2 L3
  obtain ⟨c3, hc3e⟩ : ∃ c, c = spl c2 8 (u8s (bytesOf 8 v)) := ⟨_, rfl⟩
  rw [← hc3e] at hfin L3
  have p1 : ∀ {w0 w : World} {L0 : List Asrt} {T : TypeId} {b : Nat}, H w0 (pt b T z24 :: L0) w → Calls Tryz.prog 88 #[.slice (some ⟨b, 0, none⟩) 4 24, u64 g] w fun e w' => ∃ v L', e = .returned v ∧ H w0 L' w' ∧ v = .tuple #[] ∧ L' = pt b T c1 :: L0 := fun hw => by
    rw [hc1e]; exact put_f (by omega) (by decide) hw
  have p2 : ∀ {w0 w : World} {L0 : List Asrt} {T : TypeId} {b : Nat}, H w0 (pt b T c1 :: L0) w → Calls Tryz.prog 88 #[.slice (some ⟨b, 4, none⟩) 4 20, u64 p] w fun e w' => ∃ v L', e = .returned v ∧ H w0 L' w' ∧ v = .tuple #[] ∧ L' = pt b T c2 :: L0 := fun hw => by
    rw [hc2e]; exact put_f (by omega) (by omega) hw
  have p3 : ∀ {w0 w : World} {L0 : List Asrt} {T : TypeId} {b : Nat}, H w0 (pt b T c2 :: L0) w → Calls Tryz.prog 88 #[.slice (some ⟨b, 8, none⟩) 8 16, u64 v] w fun e w' => ∃ v L', e = .returned v ∧ H w0 L' w' ∧ v = .tuple #[] ∧ L' = pt b T c3 :: L0 := fun hw => by
    rw [hc3e]; exact put_f (by omega) (by omega) hw
  generalize sumN g p v d = S0 at *
  obtain ⟨D, hD⟩ : ∃ D, D = d.cells := ⟨_, rfl⟩
  have hD1 : ∀ u ∈ D, u.oneCell' = true := by rw [hD]; exact Blk.one d
  rw [← hD] at hfin hb8
  show Calls _ _ #[iv g, iv p, u64 v, .agg d.cells.toArray] w _
  rw [← hD]
  clear hc1e hc2e hc3e l0 l1 l2 hlen hlt hB hD
  refine calls_wc (args := [iv g, iv p, u64 v, .agg D.toArray]) [8] [] Tryz.func35 rfl Tryz.ntmps35 rfl rfl rfl rfl (H.refl _) ?_
  refine WC.seq fun K hK => ?_
  refine WC.region rfl ?_
  refine WL.want rfl (WL1.box rfl rfl (.mk (v := .agg _) rfl rfl) rfl (fun b7 => ?_))
  refine wAI rfl rfl rfl rfl rfl ?_
  refine WL.nil (hK _ _ ?_); clear hK
  refine WC.seq fun K hK => ?_
  refine WC.region rfl ?_
  refine WL.want rfl (WL1.alloc rfl rfl rfl rfl (fun b9 => ?_))
  refine WL.nil (hK _ _ ?_); clear hK
  refine WC.seq fun K hK => ?_
  refine WC.region rfl ?_
  refine wG rfl rfl (g_sliceA (sz := 1) (k := 0) (m := 24) (l := 0) (h := 4) (kl := .i64) (p := 0) (kh := .i64) (q := 4) rfl (.mk rfl rfl) rfl rfl rfl ⟨.mk rfl rfl, rfl⟩ (by omega) (by omega) (fun _ _ => rfl)) ?_
  refine wMI rfl rfl rfl rfl rfl ?_
  refine wG rfl rfl (g_conv rfl rfl rfl (.mk rfl rfl) hc1) ?_
  (refine WL.want rfl (WL1.callF rfl rfl rfl (.cons (.mk (v := .slice _ _ _) rfl rfl) (.cons (.mk (v := .int _ _) rfl rfl) .nil)) (fun w hw => p1 (b := b9) hw) ?_); rintro _ _ ⟨rfl, rfl⟩)
  refine WL.nil (hK _ _ ?_); clear hK
  clear p1
  refine WC.seq fun K hK => ?_
  refine WC.region rfl ?_
  refine wG rfl rfl (g_sliceA (sz := 1) (k := 0) (m := 24) (l := 4) (h := 8) (kl := .i64) (p := 4) (kh := .i64) (q := 8) rfl (.mk rfl rfl) rfl rfl ⟨.mk rfl rfl, rfl⟩ ⟨.mk rfl rfl, rfl⟩ (by omega) (by omega) (fun _ _ => rfl)) ?_
  refine wMI rfl rfl rfl rfl rfl ?_
  refine wG rfl rfl (g_conv rfl rfl rfl (.mk rfl rfl) hc2) ?_
  (refine WL.want rfl (WL1.callF rfl rfl rfl (.cons (.mk (v := .slice _ _ _) rfl rfl) (.cons (.mk (v := .int _ _) rfl rfl) .nil)) (fun w hw => p2 (b := b9) hw) ?_); rintro _ _ ⟨rfl, rfl⟩)
  refine WL.nil (hK _ _ ?_); clear hK
  clear p2
  refine WC.seq fun K hK => ?_
  refine WC.region rfl ?_
  refine wG rfl rfl (g_sliceA (sz := 1) (k := 0) (m := 24) (l := 8) (h := 16) (kl := .i64) (p := 8) (kh := .i64) (q := 16) rfl (.mk rfl rfl) rfl rfl ⟨.mk rfl rfl, rfl⟩ ⟨.mk rfl rfl, rfl⟩ (by omega) (by omega) (fun _ _ => rfl)) ?_
  refine wMI rfl rfl rfl rfl rfl ?_
  (refine WL.want rfl (WL1.callF rfl rfl rfl (.cons (.mk (v := .slice _ _ _) rfl rfl) (.cons (.mk (v := .int _ _) rfl rfl) .nil)) (fun w hw => p3 (b := b9) hw) ?_); rintro _ _ ⟨rfl, rfl⟩)
  refine WL.nil (hK _ _ ?_); clear hK
  clear p3
  refine WC.seq fun K hK => ?_
  refine WC.split 0 rfl (by kernel_rfl) (by decide +kernel) ?_
  refine WQ.nil ?_
  refine WY.take 0 rfl (by decide +kernel) (by decide +kernel) (by decide +kernel) rfl rfl (g_sliceA (sz := 1) (k := 0) (m := 24) (l := 16) (h := 24) (kl := .i64) (p := 16) (kh := .i64) (q := 24) rfl (.mk rfl rfl) rfl rfl ⟨.mk rfl rfl, rfl⟩ rfl (by omega) (by omega) (fun _ _ => rfl)) ?_
  refine WY.take 1 rfl (by decide +kernel) (by decide +kernel) (by decide +kernel) rfl rfl (g_sliceA (sz := 1) (k := 0) (m := 8) (l := 0) (h := 8) (kl := .i64) (p := 0) (kh := .i64) (q := 8) rfl (.mk rfl rfl) rfl rfl rfl rfl (by omega) (by omega) (fun _ _ => rfl)) ?_
  refine WY.one 2 (by decide +kernel) rfl rfl ?_
  refine WL1.copyPt (cur := c3) (news := D) (off := 16) (m := 8) (k := 8) rfl rfl rfl rfl (.mk rfl rfl) (.mk rfl rfl) (by omega) (by omega) (by omega) (fun w hw => Sl.of_ptE (cs := D) (k := 0) (m := 8) (l := 0) (h := 8) hw (by first | ((repeat (first | exact .head _ | apply List.Mem.tail)); done) | fail) (by omega) (by omega) (by unfold maxLen; omega) (by omega) rfl (by rw [Nat.zero_add, Nat.zero_mul, List.drop_zero, Nat.mul_one, List.take_of_length_le (by omega)])) hD1 (by repeat (first | exact .head | apply Swap.tail)) ?_
  refine WL.nil ?_
  refine WY.done (by decide +kernel) ?_
  (refine hK _ _ ?_; clear hK)
  rw [hfin]
  refine WC.seq fun K hK => ?_
  refine WC.region rfl ?_
  refine wG rfl rfl (g_sliceA (sz := 1) (k := 0) (m := 24) (l := 0) (h := 24) (kl := .i64) (p := 0) (kh := .i64) (q := 24) rfl (.mk rfl rfl) rfl rfl rfl rfl (by omega) (by omega) (fun _ _ => rfl)) ?_
  refine WL.want rfl (WL1.callP rfl rfl rfl (.cons (.mk (v := .slice _ _ _) rfl rfl) .nil) (fun w hw => hcrc _ w (Sl.of_ptE (k := 0) (m := 24) (l := 0) (h := 24) hw (by first | ((repeat (first | exact .head _ | apply List.Mem.tail)); done) | fail) (by omega) (by omega) (by unfold maxLen; omega) (by omega) rfl (by rw [Nat.zero_add, Nat.zero_mul, List.drop_zero, Nat.mul_one, List.take_of_length_le (by omega)]))) ?_)
  refine wAI rfl rfl rfl rfl rfl ?_
  refine WL.nil (hK _ _ ?_); clear hK
  refine WC.ret ?_
  exact fun w' hw' => ⟨rfl, hw'.1⟩
theorem sumN_inj {g p v : Nat} {d e : Blk} (h : sumN g p v d = sumN g p v e) : d = e := by
  unfold sumN at h
  rw [crcN_eq, crcN_eq] at h
  have h2 := cnot_inj h
  have happ : ∀ (l m : List Nat) (x : Nat), cupd x (l ++ m) = cupd (cupd x l) m := by
    intro l
    induction l with
    | nil => intro m x; rw [List.nil_append, cupd_zero]
    | cons c l ih => intro m x; rw [List.cons_append, cupd, cupd, ih]
  unfold pieceB at h2
  rw [happ (bytesOf 4 g ++ bytesOf 4 p ++ bytesOf 8 v) _ (cnot 0), happ (bytesOf 4 g ++ bytesOf 4 p ++ bytesOf 8 v) _ (cnot 0)] at h2
  have hlt : cupd (cnot 0) (bytesOf 4 g ++ bytesOf 4 p ++ bytesOf 8 v) < 2 ^ 64 := cupd_lt _ (cnot_lt (by decide)) fun c hc => by
    rw [List.mem_append, List.mem_append] at hc
    rcases hc with (hc | hc) | hc <;> exact bytesOf_lt _ _ c hc
  have hl : ∀ d : Blk, (d.l.map fun x => x.val).length = 8 := fun d => by rw [List.length_map, d.h]
  have hlt2 : ∀ d : Blk, ∀ c ∈ d.l.map fun x => x.val, c < 256 := fun d c hc => by
    obtain ⟨x, _, rfl⟩ := List.mem_map.1 hc
    exact x.lt
  have := cupd_inj hlt (hl d) (hl e) (hlt2 d) (hlt2 e) h2
  refine Blk.eq_of ?_
  have hinj : ∀ (l m : List G), (l.map fun x => x.val) = (m.map fun x => x.val) → l = m := by
    intro l
    induction l with
    | nil => intro m h; cases m with | nil => rfl | cons a m => simp at h
    | cons a l ih =>
      intro m h
      cases m with
      | nil => simp at h
      | cons b m =>
        simp only [List.map_cons, List.cons.injEq] at h
        rw [ih m h.2, show a = b from G.eq_of h.1]
  exact hinj _ _ this
end Go.Proofs.YtdcijljfgcjelaaGreat
namespace Go.Proofs.YtdcijljfgcjelaaGreat
set_option maxRecDepth 20000
open Go.RowKit
section
variable {P : Program} {n : Fr} {w0 : World} {ops : Array Oper} {K : Post} {o : Oper} {rest : List Oper} {E : Env} {L : List Asrt}
def methT (P : Program) (t : TypeId) (name : String) : Option FuncId :=
  match P.info? t, P.underlying t with
  | some i, some (.pointer _) => match i.methods.find? (·.name == name) with
    | some m => if m.path.isEmpty then match m.func with | some (f, true) => some f | _ => none else none
    | none => none
  | _, _ => none
end
/-! ### One of many blocks -/
theorem perm_at {α : Type} : ∀ {M : List α} {k : Nat} (hk : k < M.length), M.Perm (M[k] :: M.eraseIdx k)
  | a :: M, 0, _ => List.Perm.refl _
  | a :: M, k + 1, h => by
    have := perm_at (M := M) (k := k) (by simpa using h)
    exact (this.cons a).trans (List.Perm.swap _ _ _)
theorem perm_set {α : Type} {a : α} : ∀ {M : List α} {k : Nat}, k < M.length → (a :: M.eraseIdx k).Perm (M.set k a)
  | b :: M, 0, _ => List.Perm.refl _
  | b :: M, k + 1, h => by
    have := perm_set (a := a) (M := M) (k := k) (by simpa using h)
    exact (List.Perm.swap _ _ _).trans (this.cons b)
theorem Imp.out {M L : List Asrt} {k : Nat} (hk : k < M.length) : Imp (Go.Proofs.YtdcijljfgcjelaaGreat.bun M :: L) (M[k] :: Go.Proofs.YtdcijljfgcjelaaGreat.bun (M.eraseIdx k) :: L) := by
  have h1 : Imp (Go.Proofs.YtdcijljfgcjelaaGreat.bun M :: L) (M ++ L) := Imp.unbun M L
  have h2 : Imp (M ++ L) ((M[k] :: M.eraseIdx k) ++ L) := Imp.perm ((perm_at hk).append_right L)
  exact (h1.trans h2).trans (Imp.cons (Imp.bun (M.eraseIdx k) L))
theorem Imp.back {M L : List Asrt} {A : Asrt} {k : Nat} (hk : k < M.length) : Imp (A :: Go.Proofs.YtdcijljfgcjelaaGreat.bun (M.eraseIdx k) :: L) (Go.Proofs.YtdcijljfgcjelaaGreat.bun (M.set k A) :: L) := by
  have h1 : Imp (A :: Go.Proofs.YtdcijljfgcjelaaGreat.bun (M.eraseIdx k) :: L) (A :: (M.eraseIdx k ++ L)) := Imp.cons (Imp.unbun _ L)
  have h2 : Imp ((A :: M.eraseIdx k) ++ L) (M.set k A ++ L) := Imp.perm ((perm_set hk).append_right L)
  exact (h1.trans h2).trans (Imp.bun _ L)
theorem Imp.new {M L : List Asrt} {A : Asrt} : Imp (A :: Go.Proofs.YtdcijljfgcjelaaGreat.bun M :: L) (Go.Proofs.YtdcijljfgcjelaaGreat.bun (M ++ [A]) :: L) := by
  have h1 : Imp (A :: Go.Proofs.YtdcijljfgcjelaaGreat.bun M :: L) (A :: (M ++ L)) := Imp.cons (Imp.unbun _ L)
  have h2 : Imp ((A :: M) ++ L) ((M ++ [A]) ++ L) := Imp.perm ((List.perm_append_singleton A M).symm.append_right L)
  exact (h1.trans h2).trans (Imp.bun _ L)
theorem Imp.none {L : List Asrt} : Imp L (Go.Proofs.YtdcijljfgcjelaaGreat.bun [] :: L) := Imp.bun [] L
/-! ### Rows as blocks -/
section
variable {P : Program} {n : Fr} {w0 : World} {ops : Array Oper} {K : Post} {o : Oper} {rest : List Oper} {E : Env} {L : List Asrt} {C : World → Prop}
end
section
variable {P : Program} {n : Fr} {C : World → Prop} {o : Oper} {E : Env}
def concT (P : Program) (t : TypeId) : Bool := match P.underlying t with | some (.interface _) => false | some _ => true | none => false
def ifaceT (P : Program) (t : TypeId) : Bool := match P.underlying t with | some (.interface _) => true | _ => false
end
end Go.Proofs.YtdcijljfgcjelaaGreat
namespace Go.Proofs.YtdcijljfgcjelaaGreat
set_option maxRecDepth 20000
open Go.RowKit
section
variable {P : Program} {n : Fr} {w0 : World} {E : Env} {L : List Asrt} {Q : Exit → Post} {K : Post} {l : List Oper} {f : Nat} {marks : Array Bool}
def WI (P : Program) (n : Fr) (w0 : World) (l : List Oper) (K : Post) (f : Nat) (marks : Array Bool) (E : Env) (L : List Asrt) : Prop :=
  ∀ w, H w0 L w → ∀ Q : Exit → Act → World → Prop, ¬ LetsOut Q → (∀ E' L' w', H w0 L' w' → K E' L' → Q .normal (actOf n E') w') → wpAnyIn (fen n) 0 P .any l.toArray Q f marks (actOf n E) w
theorem WC.anyI {id : Nat} (hm : P.follows .mixedOrders = true) (h : WI P n w0 l (Q .normal) l.length (Array.replicate l.length false) E L) : WC P n w0 (.region id l.toArray true) Q E L := fun w hw => by
  refine wpIn_region_any hm ?_
  have := h _ hw.drew (liftQ n w0 Q) liftQ_in fun E' L' w' hH hK => ⟨_, _, rfl, hH, hK⟩
  simpa using this
theorem WI.done (hr : Region.ready .any l.toArray marks = []) (h : K E L) : WI P n w0 l K f marks E L := fun w hw Q _ hQ => by
  have := hQ _ _ _ hw h
  cases f with
  | zero => exact ⟨hr, this⟩
  | succ f => exact ⟨fun _ => this, by rw [hr]; simp⟩
def WI1 (P : Program) (n : Fr) (w0 : World) (l : List Oper) (K : Post) (f : Nat) (marks : Array Bool) (E : Env) (L : List Asrt) (i : Nat) : Prop :=
  ∃ o, l[i]? = some o ∧ o.guard = none ∧ fitsR n [o] = true ∧ (WL1 P n w0 l.toArray (fun E' L' => WI P n w0 l K f (marks.setIfInBounds i true) E' L') o [] E L ∨
    ∃ (x : Operand) (args : List Operand) (ts : Array TypeId) (r : Nat) (vals : List Value), o.op = .call { callee := .value x, args := args.toArray, argTypes := ts } ∧ Ev n E x (.func (.yield r) #[] #[]) ∧ Evs n E args vals ∧
      ∀ w, H w0 L w → YieldAt Fence.wide 0 P r vals.toArray w fun e w' => ∃ v L'', e = .returned v ∧ H w0 L'' w' ∧ WI P n w0 l K f (marks.setIfInBounds i true) (E.put o.dst v) L'')
theorem WI1.plain {i : Nat} {o : Oper} (ho : l[i]? = some o) (hg : o.guard = none) (hf : fitsR n [o] = true) (h : WL1 P n w0 l.toArray (fun E' L' => WI P n w0 l K f (marks.setIfInBounds i true) E' L') o [] E L) : WI1 P n w0 l K f marks E L i := ⟨o, ho, hg, hf, .inl h⟩
theorem WI1.yield {i : Nat} {o : Oper} {x : Operand} {args : List Operand} {ts : Array TypeId} {r : Nat} {vals : List Value} (ho : l[i]? = some o) (hg : o.guard = none) (hf : fitsR n [o] = true) (hop : o.op = .call { callee := .value x, args := args.toArray, argTypes := ts }) (hx : Ev n E x (.func (.yield r) #[] #[])) (hv : Evs n E args vals)
    (h : ∀ w, H w0 L w → YieldAt Fence.wide 0 P r vals.toArray w fun e w' => ∃ v L'', e = .returned v ∧ H w0 L'' w' ∧ WI P n w0 l K f (marks.setIfInBounds i true) (E.put o.dst v) L'') : WI1 P n w0 l K f marks E L i := ⟨o, ho, hg, hf, .inr ⟨x, args, ts, r, vals, hop, hx, hv, h⟩⟩
theorem WI.all {rs : List Nat} (hr : Region.ready .any l.toArray marks = rs) (hne : rs ≠ []) (h : ∀ i ∈ rs, WI1 P n w0 l K f marks E L i) : WI P n w0 l K (f + 1) marks E L := fun w hw Q hQo hQ => by
  refine ⟨fun h0 => absurd (hr ▸ h0) hne, fun i hi => ?_⟩
  rw [hr] at hi
  obtain ⟨o, ho, hg, hf, h1 | ⟨x, args, ts, r, vals, hop, hx, hv, hY⟩⟩ := h i hi
  · unfold wpOpIn
    rw [List.getElem?_toArray, ho]
    simp only [Region.wanted, hg, if_true]
    have h2 := h1 w hw (onQ (fun a w => wpAnyIn (fen n) 0 P .any l.toArray Q f (marks.setIfInBounds i true) a w) Q) (fun E' L' w' hH hK => hK w' hH Q hQo hQ) (fun a w => wpAnyIn (fen n) 0 P .any l.toArray Q f (marks.setIfInBounds i true) a w) (fun a w h => h)
    have h3 : o.wp P (actOf n E) w (fun a w => wpAnyIn (fen n) 0 P .any l.toArray Q f (marks.setIfInBounds i true) a w) (onQ (fun a w => wpAnyIn (fen n) 0 P .any l.toArray Q f (marks.setIfInBounds i true) a w) Q) := h2
    exact opIn_fen hf h3
  · unfold wpOpIn
    rw [List.getElem?_toArray, ho]
    simp only [Region.wanted, hg, if_true]
    refine ⟨fun _ _ => fen_fn _, ?_⟩
    rw [semAt_fen hf]
    obtain ⟨fn, tmps, assign, body, hy, hR⟩ := hY w hw
    have hm : args.toArray.map (actOf n E).eval = vals.toArray := by rw [List.map_toArray, hv.map]
    have hx' : (actOf n E).eval x = .func (.yield r) #[] #[] := hx
    have hrun : (execOp (actOf n E).eval o).run P w = .ok (.round r fn tmps assign body) w := by
      unfold execOp
      simp only [hop, resolve, hx', Deferred.ofValue, Sem.run_bind, Sem.run_pure, Result.andThen_ok]
      rw [hm]
      simp only [Array.append_empty, Array.empty_append, invoke, hy]
    rw [hrun]
    refine ⟨fun h => (fen_depth h).elim, roundIn_fen (hR.mono ?_)⟩
    rintro e w2 ⟨v, L'', rfl, hH2, hW⟩
    have := hW w2 hH2 Q hQo hQ
    rw [← actOf_put] at this
    exact this
theorem WI.one (i : Nat) (hr : Region.ready .any l.toArray marks = [i]) (h : WI1 P n w0 l K f marks E L i) : WI P n w0 l K (f + 1) marks E L :=
  WI.all hr (by simp) fun j hj => by
    obtain rfl : j = i := by simpa using hj
    exact h
theorem WI.two (i j : Nat) (hr : Region.ready .any l.toArray marks = [i, j]) (h : WI1 P n w0 l K f marks E L i) (h' : WI1 P n w0 l K f marks E L j) : WI P n w0 l K (f + 1) marks E L :=
  WI.all hr (by simp) fun k hk => by
    rcases List.mem_cons.1 hk with rfl | hk
    · exact h
    · obtain rfl : k = j := by simpa using hk
      exact h'
end
/-! ### Iterators that hand on new memory -/
section
variable {P : Program} {n : Fr} {w0 w : World} {E : Env}
def ItSpec {α : Type} (P : Program) (w0 : World) (g : FuncId) (lb : List Value) (C : List Asrt) (items : List α) (V : α → List Value → List Asrt → Prop) : Prop :=
  ∀ (r : Nat) (I : List α → List Asrt → Prop),
    (∀ x rest, (x :: rest) <:+ items → ∀ vals M L X w, V x vals M → I (x :: rest) L → H w0 (M ++ (L ++ X)) w → YieldAt Fence.wide 0 P r vals.toArray w fun e w' => e = .returned (.bool true) ∧ ∃ L', I rest L' ∧ H w0 (L' ++ X) w') →
    ∀ L X w, I items L → H w0 (C ++ (L ++ X)) w → Calls P g ((.func (.yield r) #[] #[] :: lb).toArray) w fun e w' => e = .returned (.tuple #[]) ∧ ∃ L', I [] L' ∧ H w0 (C ++ (L' ++ X)) w'
theorem wpF_range_sp {α : Type} {g : Operand} {ps : List Nat} {assign body : Code} {gf : FuncId} {lb : List Value} {R : Exit → Act → World → Prop} (C L0 X : List Asrt) {items : List α} {V : α → List Value → List Asrt → Prop} (I : List α → List Asrt → Prop) (hsp : ItSpec P w0 gf lb C items V)
    (hro : n.ro = none) (hg : Ev n E g (.func (.func gf) #[] lb.toArray)) (hc : callable P gf = true) (hI : I items L0) (hw : H w0 (C ++ (L0 ++ X)) w) (hv : ∀ x vals M, V x vals M → vals.length = ps.length)
    (round : ∀ (rec : LoopState → Option Code → Loop) (r D : Nat) x rest vals M L X', (x :: rest) <:+ items → V x vals M → I (x :: rest) L → WC P ⟨n.n, some r, []⟩ w0 assign (startQ P ⟨n.n, some r, []⟩ w0 r rec body (fun L2 => ∃ L', I rest L' ∧ Imp L2 (obj r (.loop (rec .ready none)) :: dfr D :: (L' ++ X'))) (fun _ => False)) (setsL E (ps.zip vals)) (M ++ (obj r (.loop (rec .ready none)) :: dfr D :: (L ++ X'))))
    (hR : ∀ (D : Nat) (L : List Asrt) (w3 : World), I [] L → H w0 (dfr D :: (C ++ (L ++ X))) w3 → R .normal (actOf ⟨n.n, n.ro, mark D :: n.ds⟩ E) w3) : wpF n P (.rangeFunc g ps.toArray assign body) R (actOf n E) w := by
  refine wpF_rangeFunc hro hg hc hw ?_
  intro fn r D w1 hw1
  have h := hsp r (fun rest L => ∃ L', I rest L' ∧ L = obj r (.loop (recOf fn (actOf n E).tmps ps.toArray assign body D .ready none)) :: dfr D :: L')
    (fun x rest hs vals M L X' w2 hV ⟨L', hI', hL⟩ hw2 => by
      subst hL
      refine YieldAt.mono (yieldAt (fn := fn) (D := D) (T := fun L2 => ∃ L'', I rest L'' ∧ Imp L2 (obj r (.loop (recOf fn (actOf n E).tmps ps.toArray assign body D .ready none)) :: dfr D :: (L'' ++ X'))) (T' := fun _ => False) hw2 (by simp) (hv x vals M hV) (round (recOf fn (actOf n E).tmps ps.toArray assign body D) r D x rest vals M L' X' hs hV hI')) ?_
      rintro e w3 (⟨rfl, L2, ⟨L'', hI'', hi⟩, hH⟩ | ⟨_, _, hf, _⟩)
      · exact ⟨rfl, _, ⟨L'', hI'', rfl⟩, hi.h hH⟩
      · exact hf.elim)
    (obj r (.loop (recOf fn (actOf n E).tmps ps.toArray assign body D .ready none)) :: dfr D :: L0) X w1 ⟨L0, hI, rfl⟩ (hw1.perm (List.perm_append_comm_assoc [_, _] C (L0 ++ X)))
  rw [show (#[Value.func (.yield r) #[] #[]] ++ lb.toArray : Array Value) = (Value.func (.yield r) #[] #[] :: lb).toArray from by simp]
  refine h.mono ?_
  rintro e w2 ⟨he, L', ⟨L'', hI'', rfl⟩, hH⟩
  exact ⟨_, he, .inl ⟨C ++ (L'' ++ X), hH.perm (List.perm_append_comm_assoc C [_, _] (L'' ++ X)), fun w3 hw3 => hR D L'' w3 hI'' hw3⟩⟩
end
/-! ### Functions that leave with marks and give cells -/
section
variable {P : Program} {w0 w : World} {L : List Asrt}
theorem leavesMG {fn : Func} {tmps : Array Value} {R : Ending → World → Prop} {v : Value} (hv : ∀ w, H w0 L w → (results fn tmps).run P w = .ok v w) (hR : ∀ w', H w0 L w' → R (.returned v) w') : ∀ (Ds : List Nat) (w : World), H w0 (Ds.map dfr ++ L) w → LeavesInM Fence.wide 0 P fn tmps R (marks Ds) .returning w
  | [], w, hw => ⟨v, hv w hw, hR w hw⟩
  | D :: Ds, w, hw => by
    have h1 : w.heap[D]? = some (.deferred (some [])) := hw.obj (.head _)
    exact ⟨by simp, .inl ⟨D, _, rfl, run_takeDeferred h1, leavesMG hv hR Ds _ ((hw.putObj (o' := .deferred none) .head).sub (.cons _ (.refl _)))⟩⟩
def retMG (P : Program) (m : Nat) (w0 : World) (R : Ending → World → Prop) (rs : List ResultVar) : Exit → Act → World → Prop
  | .ret, a, w => ∃ E Ds L, a = actOf ⟨m, none, marks Ds⟩ E ∧ H w0 (Ds.map dfr ++ L) w ∧ ∃ vs, Res P ⟨m, none, marks Ds⟩ E L rs vs ∧ ∀ w', H w0 L w' → R (.returned (one_ vs)) w'
  | .normal, a, w => ∃ E Ds L, a = actOf ⟨m, none, marks Ds⟩ E ∧ H w0 (Ds.map dfr ++ L) w ∧ ∃ vs, Res P ⟨m, none, marks Ds⟩ E L rs vs ∧ ∀ w', H w0 L w' → R (.returned (one_ vs)) w'
  | _, _, _ => False
theorem calls_wcMG {m : Nat} {f : FuncId} {fn : Func} {c : Code} {args : List Value} {R : Ending → World → Prop} (rs : List ResultVar) (L0 : List Asrt) (hf : P.funcs[f]? = some fn) (hb : fn.body = some c) (hn : fn.ntmps = m) (hl : Nat.ble args.length m = true)
    (hres : fn.results = rs.toArray) (hw : H w0 L0 w) (h : wpF ⟨m, none, []⟩ P c (retMG P m w0 R rs) (actOf ⟨m, none, []⟩ (argE args)) w) : Calls P f args.toArray w R := by
  refine callsIn_wide.1 (callsIn_of_wp_marks (F := Fence.wide) (n := 0) hf hb trivial ?_)
  rw [hn, entry_frame args (Nat.le_of_ble_eq_true hl)]
  refine wpIn_mono h ?_
  intro e a w' hq
  cases e with
  | normal => obtain ⟨E', Ds, L', rfl, hH, vs, hres', hK⟩ := hq; exact leavesMG (fun w hw => run_resultsG hres hres' hw) hK Ds w' hH
  | ret => obtain ⟨E', Ds, L', rfl, hH, vs, hres', hK⟩ := hq; exact leavesMG (fun w hw => run_resultsG hres hres' hw) hK Ds w' hH
  | _ => exact hq.elim
end
end Go.Proofs.YtdcijljfgcjelaaGreat
namespace Go.Proofs.YtdcijljfgcjelaaGreat
set_option maxRecDepth 20000
open Go.RowKit
structure Row where
  A : Option Addr
  c : Nat
  l : List G
instance : Inhabited Row := ⟨⟨none, 0, []⟩⟩
def Row.v (r : Row) : Value := .slice r.A r.l.length r.c
def Row.own (r : Row) : Asrt := vec r.A r.l.length r.c 5 1 (bvs r.l)
def els (rs : List Row) : List (List G) := rs.map Row.l
def MatAt (w : World) (v : Value) (rs : List Row) : Prop := Sl w 1 v rs.length (rs.map Row.v) ∧ ∀ r ∈ rs, Sl w 1 r.v r.l.length (bvs r.l)
theorem MatAt.below {w w' : World} {v : Value} {rs : List Row} (h : MatAt w v rs) (hb : Below w.heap.size w w') : MatAt w' v rs := ⟨h.1.below hb, fun r hr => (h.2 r hr).below hb⟩
theorem nth_mem {α : Type} [Inhabited α] {l : List α} {k : Nat} (h : k < l.length) : nth l k ∈ l := by rw [nth_eq h]; exact List.getElem_mem h
theorem MatAt.row {w : World} {v : Value} {rs : List Row} (h : MatAt w v rs) {k : Nat} (hk : k < rs.length) : Sl w 1 (nth rs k).v (nth rs k).l.length (bvs (nth rs k).l) := h.2 _ (nth_mem hk)
theorem nth_map {α β : Type} [Inhabited α] [Inhabited β] (f : α → β) {l : List α} {k : Nat} (h : k < l.length) : nth (l.map f) k = f (nth l k) := by
  rw [nth_eq (by simpa using h), nth_eq h]; simp
def matL (A : Option Addr) (c : Nat) (rs : List Row) : List Asrt := vec A rs.length c 99 1 (rs.map Row.v) :: rs.map Row.own
theorem elR : Elem Tryz.prog 166 99 (.slice none 0 0) 1 24 := ⟨by kernel_rfl, by kernel_rfl, rfl, by decide⟩
theorem bvs_one (l : List G) : ∀ u ∈ bvs l, u.oneCell' = true := fun u hu => by
  obtain ⟨x, _, rfl⟩ := List.mem_map.1 hu
  rfl
theorem rowv_one (rs : List Row) : ∀ u ∈ rs.map Row.v, u.oneCell' = true := fun u hu => by
  obtain ⟨x, _, rfl⟩ := List.mem_map.1 hu
  rfl
theorem madeU (n : Nat) : (madeCells (Value.int .u8 0).cells (n * 1)).toList = bvs (List.replicate n 0) := by
  rw [show (Value.int .u8 0).cells = #[.int .u8 0] from rfl, made_one, bvs, List.map_replicate]
  rfl
end Go.Proofs.YtdcijljfgcjelaaGreat
namespace Go.Proofs.YtdcijljfgcjelaaGreat
set_option maxRecDepth 20000
open Go.RowKit
abbrev rowsA (rs : List Row) : Asrt := bun (rs.map Row.own)
def Row.put (r : Row) (j : Nat) (x : G) : Row := { r with l := r.l.set j x }
theorem Row.put_own (r : Row) (j : Nat) (x : G) : (r.put j x).own = vec r.A r.l.length r.c 5 1 ((bvs r.l).set j (bv x)) := by
  have h : (bvs r.l).set j (bv x) = bvs (r.l.set j x) := by unfold bvs; rw [List.map_set]
  rw [h, Row.own, Row.put, List.length_set]
theorem Row.put_v (r : Row) (j : Nat) (x : G) : (r.put j x).v = r.v := by rw [Row.v, Row.v, Row.put, List.length_set]
theorem nth_eq' {α : Type} [Inhabited α] {l : List α} {k : Nat} (h : k < l.length) : nth l k = l[k] := nth_eq h
theorem set_parts {α : Type} [Inhabited α] {l : List α} {k : Nat} (a : α) (h : k < l.length) : l.set k a = l.take k ++ a :: l.drop (k + 1) ∧ l = l.take k ++ nth l k :: l.drop (k + 1) := by
  refine ⟨by rw [List.set_eq_take_append_cons_drop, if_pos h], ?_⟩
  rw [nth_eq' h, List.getElem_cons_drop, List.take_append_drop]
theorem own_focus {rs : List Row} {k : Nat} (L : List Asrt) (hk : k < rs.length) : (rs.map Row.own ++ L).Perm ((nth rs k).own :: ((rs.take k ++ rs.drop (k + 1)).map Row.own ++ L)) := by
  have h := (set_parts (default : Row) hk).2
  refine List.Perm.trans (List.Perm.append_right L (List.Perm.map Row.own (?_ : rs.Perm (nth rs k :: (rs.take k ++ rs.drop (k + 1)))))) (.refl _)
  conv => lhs; rw [h]
  exact List.perm_middle
theorem own_unfocus {rs : List Row} {k : Nat} (r : Row) (L : List Asrt) (hk : k < rs.length) : (r.own :: ((rs.take k ++ rs.drop (k + 1)).map Row.own ++ L)).Perm ((rs.set k r).map Row.own ++ L) := by
  refine List.Perm.trans (.refl _) (List.Perm.append_right L (List.Perm.map Row.own (?_ : (r :: (rs.take k ++ rs.drop (k + 1))).Perm (rs.set k r))))
  rw [(set_parts r hk).1]
  exact List.perm_middle.symm
section
variable {P : Program} {n : Fr} {w0 : World} {ops : Array Oper} {K : Post} {o : Oper} {rest : List Oper} {E : Env} {L L' : List Asrt}
theorem rowA_own {w : World} {rs : List Row} {k : Nat} (hw : H w0 L w) (hm : rowsA rs ∈ L) (hk : k < rs.length) : w.ownsRow 0 5 1 (nth rs k).v (nth rs k).l.length (bvs (nth rs k).l) :=
  (Sep.in_ (hw.2.in_ _ hm).1 (nth rs k).own (List.mem_map_of_mem (nth_mem hk))).1
theorem Sl.of_rowA {w : World} {rs : List Row} {k : Nat} (hw : H w0 L w) (hm : rowsA rs ∈ L) (hk : k < rs.length) : Sl w 1 (nth rs k).v (nth rs k).l.length (bvs (nth rs k).l) := Sl.of_own (rowA_own hw hm hk)
theorem rowA_some {rs : List Row} {k : Nat} (hm : rowsA rs ∈ L) (hk : k < rs.length) (hj : 0 < (nth rs k).l.length) : ∀ w, H w0 L w → (nth rs k).A.isSome = true := fun _ hw => sl_some (Sl.of_rowA hw hm hk) (by omega)
theorem rowA_cap {w : World} {rs : List Row} {k : Nat} (hw : H w0 L w) (hm : rowsA rs ∈ L) (hk : k < rs.length) : (nth rs k).l.length ≤ (nth rs k).c := by
  obtain ⟨_, A', c', h2, h3, _⟩ := Sl.of_rowA hw hm hk
  unfold Row.v at h2
  injection h2 with _ _ e3
  omega
theorem rd_rowA {rs : List Row} {k j : Nat} (hm : rowsA rs ∈ L) (hk : k < rs.length) (hj : j < (nth rs k).l.length) : RdC (H w0 L) (nth rs k).A (j * 1) (bv (nth (nth rs k).l j)) := fun w hw => by
  have h := Sl.of_rowA hw hm hk
  obtain ⟨h1, A', c', h2, h3, h4, h5⟩ := h
  unfold Row.v at h2
  injection h2 with e1 e2 e3
  obtain ⟨ad, e, hl, hc⟩ := h5 (by omega)
  exact ⟨ad, e1.trans e, hc _ _ (by rw [Nat.mul_one, bvs, List.getElem?_map, nth_get hj]; rfl)⟩
theorem MatAt.of_rowsA {w : World} {A : Option Addr} {c : Nat} {rs : List Row} (hw : H w0 L w) (h0 : vec A rs.length c 99 1 (rs.map Row.v) ∈ L) (h : rowsA rs ∈ L) : MatAt w (.slice A rs.length c) rs :=
  ⟨Sl.of_vec hw h0, fun r hr => by
    obtain ⟨k, hk, rfl⟩ := List.getElem_of_mem hr
    have := Sl.of_rowA hw h hk
    rwa [nth_eq' hk] at this⟩
theorem WL1.storeRow {t : TypeId} {x y : Operand} {rs : List Row} {k j i : Nat} {g : G} {v : Value} {A' : Option Addr} (ho : o.op = .store t x y) (hd : o.dst = none) (hx : Ev n E x (cellPtr A' i)) (hA : A' = (nth rs k).A) (hi : i = j * 1) (hy : Ev n E y v) (hg : v = bv g) (ht : szT P t = some 1) (hk : k < rs.length) (hj : j < (nth rs k).l.length)
    (hs : Swap (rowsA rs) (rowsA (rs.set k ((nth rs k).put j g))) L L') (h : WL P n w0 ops K rest E L') : WL1 P n w0 ops K o rest E L := by
  subst hg; subst hA
  obtain ⟨L1, p1, p2⟩ := hs.perms
  refine WL1.imp (((Imp.perm p1).trans (Imp.unbun _ _)).trans (Imp.perm (own_focus L1 hk))) ?_
  refine WL1.storeV1 (m := (nth rs k).l.length) (c := (nth rs k).c) (e := 5) (sz := 1) (xs := bvs (nth rs k).l) ho hd hx hy ht rfl (by rw [hi]; simpa using hj) .head ?_
  refine WL.imp ?_ h
  have e1 : vec (nth rs k).A (nth rs k).l.length (nth rs k).c 5 1 ((bvs (nth rs k).l).set i (bv g)) = ((nth rs k).put j g).own := by rw [Row.put_own, hi, Nat.mul_one]
  rw [e1]
  exact ((Imp.perm (own_unfocus _ L1 hk)).trans (Imp.bun _ _)).trans (Imp.perm p2.symm)
end
def Row.copy (r : Row) (l : List G) : Row := { r with l := l ++ r.l.drop l.length }
theorem Row.copy_own (r : Row) {l : List G} (h : l.length ≤ r.l.length) : (r.copy l).own = vec r.A r.l.length r.c 5 1 (bvs l ++ (bvs r.l).drop l.length) := by
  have e1 : bvs l ++ (bvs r.l).drop l.length = bvs (l ++ r.l.drop l.length) := by unfold bvs; rw [List.map_append, List.map_drop]
  have e2 : (l ++ r.l.drop l.length).length = r.l.length := by rw [List.length_append, List.length_drop]; omega
  rw [e1, Row.own, Row.copy, e2]
theorem Row.copy_v (r : Row) {l : List G} (h : l.length ≤ r.l.length) : (r.copy l).v = r.v := by
  have e2 : (l ++ r.l.drop l.length).length = r.l.length := by rw [List.length_append, List.length_drop]; omega
  rw [Row.v, Row.v, Row.copy, e2]
theorem WL1.copyRow {P : Program} {n : Fr} {w0 : World} {ops : Array Oper} {K : Post} {o : Oper} {rest : List Oper} {E : Env} {L L' : List Asrt} {x y : Operand} {t t' : TypeId} {d : Option Tmp} {rs : List Row} {k m c : Nat} {l : List G} {src : Value} (ht : P.underlying t = some (.slice 5)) (hs1 : szT P 5 = some 1)
    (ho : o.op = .call { callee := .builtin .copy, args := #[x, y], argTypes := #[t, t'] }) (hd : o.dst = d) (hx : Ev n E x (.slice (nth rs k).A m c)) (hm : m = (nth rs k).l.length) (hc : c = (nth rs k).c) (hy : Ev n E y src) (hk : k < rs.length) (h0 : 0 < l.length) (hkm : l.length ≤ (nth rs k).l.length)
    (hsl : ∀ w, H w0 L w → Sl w 1 src l.length (bvs l)) (hs : Swap (rowsA rs) (rowsA (rs.set k ((nth rs k).copy l))) L L')
    (h : WL P n w0 ops K rest (E.put d (.int .i64 l.length)) L') : WL1 P n w0 ops K o rest E L := by
  subst hm; subst hc
  obtain ⟨L1, p1, p2⟩ := hs.perms
  have i1 := ((Imp.perm p1).trans (Imp.unbun _ _)).trans (Imp.perm (own_focus L1 hk))
  have i2 := (Imp.unbun _ _).trans (Imp.perm (own_focus L1 hk))
  refine WL1.imp i1 ?_
  refine WL1.copyV (m := (nth rs k).l.length) (c := (nth rs k).c) (xs := bvs (nth rs k).l) ht hs1 ho hd hx hy h0 hkm (fun w hw => hsl w ?_) (one_of_int .u8 (fun x : G => (x.val : Int)) l) .head (WL.imp ?_ h)
  · exact ((((Imp.perm (own_focus L1 hk).symm).trans (Imp.bun _ _))).trans (Imp.perm p1.symm)).h hw
  · rw [← Row.copy_own _ hkm]
    exact ((Imp.perm (own_unfocus _ L1 hk)).trans (Imp.bun _ _)).trans (Imp.perm p2.symm)
theorem Imp.row_put {rs : List Row} {k : Nat} (r : Row) (L : List Asrt) (hk : k < rs.length) : Imp (r.own :: rowsA rs :: L) (rowsA (rs.set k r) :: L) :=
  ((Imp.cons ((Imp.unbun _ _).trans ((Imp.perm (own_focus L hk)).trans (Imp.sub (.cons _ (.refl _)))))).trans (Imp.perm (own_unfocus r L hk))).trans (Imp.bun _ _)
theorem Imp.row_add (rs : List Row) (r : Row) (L : List Asrt) : Imp (r.own :: rowsA rs :: L) (rowsA (rs ++ [r]) :: L) :=
  ((Imp.cons (Imp.unbun _ _)).trans (Imp.perm (show (r.own :: (rs.map Row.own ++ L)).Perm ((rs ++ [r]).map Row.own ++ L) by rw [List.map_append, List.append_assoc]; exact List.perm_middle.symm))).trans (Imp.bun _ _)
theorem Imp.rows_perm {rs rs' : List Row} (h : rs.Perm rs') (L : List Asrt) : Imp (rowsA rs :: L) (rowsA rs' :: L) :=
  ((Imp.unbun _ _).trans (Imp.perm (List.Perm.append_right L (h.map Row.own)))).trans (Imp.bun _ _)
theorem Imp.rows_nil (L : List Asrt) : Imp L (rowsA [] :: L) := Imp.bun [] L
theorem Imp.rows_of (rs : List Row) (L : List Asrt) : Imp (rs.map Row.own ++ L) (rowsA rs :: L) := Imp.bun _ _
theorem rowsv_set {rs : List Row} {k : Nat} (r : Row) : (rs.set k r).map Row.v = (rs.map Row.v).set k r.v := List.map_set
theorem Imp.put2 {rs : List Row} {k : Nat} {r : Row} {L L1 L2 : List Asrt} (h1 : Take r.own L L1) (h2 : Swap (rowsA rs) (rowsA (rs.set k r)) L1 L2) (hk : k < rs.length) : Imp L L2 := by
  obtain ⟨L3, p1, p2⟩ := h2.perms
  exact (Imp.perm (h1.perm.trans (p1.cons _))).trans ((Imp.row_put r L3 hk).trans (Imp.perm p2.symm))
theorem Imp.add2 {rs : List Row} {r : Row} {L L1 L2 : List Asrt} (h1 : Take r.own L L1) (h2 : Swap (rowsA rs) (rowsA (rs ++ [r])) L1 L2) : Imp L L2 := by
  obtain ⟨L3, p1, p2⟩ := h2.perms
  exact (Imp.perm (h1.perm.trans (p1.cons _))).trans ((Imp.row_add rs r L3).trans (Imp.perm p2.symm))
end Go.Proofs.YtdcijljfgcjelaaGreat
namespace Go.Proofs.YtdcijljfgcjelaaGreat
set_option maxRecDepth 20000
def gsum : Nat → (Nat → G) → G
  | 0, _ => 0
  | n + 1, f => gsum n f + f n
theorem gsum_congr {n : Nat} {f g : Nat → G} (h : ∀ k, k < n → f k = g k) : gsum n f = gsum n g := by
  induction n with
  | zero => rfl
  | succ n ih => rw [gsum, gsum, ih fun k hk => h k (by omega), h n (by omega)]
theorem gsum_add (n : Nat) (f g : Nat → G) : gsum n (fun k => f k + g k) = gsum n f + gsum n g := by
  induction n with
  | zero => exact (G.add_zero 0).symm
  | succ n ih => rw [gsum, gsum, gsum, ih]; ac_rfl
theorem gsum_zero {n : Nat} {f : Nat → G} (h : ∀ k, k < n → f k = 0) : gsum n f = 0 := by
  induction n with
  | zero => rfl
  | succ n ih => rw [gsum, ih fun k hk => h k (by omega), h n (by omega), G.add_zero]
theorem mul_gsum (c : G) (n : Nat) (f : Nat → G) : c * gsum n f = gsum n (fun k => c * f k) := by
  induction n with
  | zero => exact G.mul_zero c
  | succ n ih => rw [gsum, gsum, G.mul_add, ih]
theorem gsum_mul (c : G) (n : Nat) (f : Nat → G) : gsum n f * c = gsum n (fun k => f k * c) := by
  rw [G.mul_comm, mul_gsum]; exact gsum_congr fun k _ => G.mul_comm _ _
theorem gsum_swap (n m : Nat) (f : Nat → Nat → G) : gsum n (fun i => gsum m (fun j => f i j)) = gsum m (fun j => gsum n (fun i => f i j)) := by
  induction n with
  | zero => exact (gsum_zero fun _ _ => rfl).symm
  | succ n ih =>
    show gsum n (fun i => gsum m (fun j => f i j)) + gsum m (fun j => f n j) = gsum m (fun j => gsum n (fun i => f i j) + f n j)
    rw [ih, ← gsum_add]
theorem gsum_take {n a : Nat} (ha : a < n) (f : Nat → G) : gsum n f = f a + gsum n (fun k => if k = a then 0 else f k) := by
  induction n with
  | zero => omega
  | succ n ih =>
    rw [gsum, gsum]
    by_cases h : a = n
    · subst h
      rw [if_pos rfl, G.add_zero, G.add_comm]
      congr 1
      exact gsum_congr fun k hk => by rw [if_neg (by omega)]
    · rw [ih (by omega), if_neg (by omega), G.add_assoc]
theorem gsum_one {n a : Nat} (ha : a < n) {f : Nat → G} (h : ∀ k, k < n → k ≠ a → f k = 0) : gsum n f = f a := by
  rw [gsum_take ha, gsum_zero, G.add_zero]
  intro k hk
  by_cases e : k = a
  · rw [if_pos e]
  · rw [if_neg e, h k hk e]
def dlt (i j : Nat) : G := if i = j then 1 else 0
theorem dlt_self (i : Nat) : dlt i i = 1 := if_pos rfl
theorem dlt_ne {i j : Nat} (h : i ≠ j) : dlt i j = 0 := if_neg h
theorem gsum_dlt {n i : Nat} (hi : i < n) (f : Nat → G) : gsum n (fun j => dlt i j * f j) = f i := by
  rw [gsum_one hi fun k _ hk => by rw [dlt_ne (fun e => hk e.symm), G.zero_mul], dlt_self, G.one_mul]
theorem gsum_dlt' {n i : Nat} (hi : i < n) (f : Nat → G) : gsum n (fun j => f j * dlt j i) = f i := by
  rw [gsum_one hi fun k _ hk => by rw [dlt_ne hk, G.mul_zero], dlt_self, G.mul_one]
theorem gsum_assoc (p q : Nat) (a : Nat → G) (b : Nat → Nat → G) (c : Nat → G) : gsum q (fun k => gsum p (fun j => a j * b j k) * c k) = gsum p (fun j => a j * gsum q (fun k => b j k * c k)) := by
  have h1 : gsum q (fun k => gsum p (fun j => a j * b j k) * c k) = gsum q (fun k => gsum p (fun j => a j * b j k * c k)) := gsum_congr fun k _ => gsum_mul _ _ _
  rw [h1, gsum_swap]
  exact gsum_congr fun j _ => by rw [mul_gsum]; exact gsum_congr fun k _ => G.mul_assoc _ _ _
theorem hom : ∀ (q p : Nat) (A : Nat → Nat → G), q < p → ∃ x : Nat → G, (∃ k, k < p ∧ x k ≠ 0) ∧ ∀ i, i < q → gsum p (fun k => A i k * x k) = 0
  | 0, p, _, h => ⟨fun _ => 1, ⟨0, h, one_ne_zero⟩, fun i hi => absurd hi (by omega)⟩
  | q + 1, 0, _, h => absurd h (by omega)
  | q + 1, p + 1, A, h => by
    by_cases hz : ∀ i, i < q + 1 → A i p = 0
    · refine ⟨fun k => dlt k p, ⟨p, by omega, by show dlt p p ≠ 0; rw [dlt_self]; exact one_ne_zero⟩, fun i hi => ?_⟩
      rw [gsum_dlt' (by omega), hz i hi]
    · obtain ⟨r, hr, hne⟩ : ∃ r, r < q + 1 ∧ A r p ≠ 0 := by
        refine Classical.byContradiction fun hn => hz fun i hi => Classical.byContradiction fun hx => hn ⟨i, hi, hx⟩
      obtain ⟨v, hv⟩ : ∃ v, v = ginv (A r p) := ⟨_, rfl⟩
      have hv1 : A r p * v = 1 := by rw [hv]; exact mul_ginv hne
      obtain ⟨x, ⟨k0, hk0, hx0⟩, hx⟩ := hom q p (fun i k => A (if i < r then i else i + 1) k + A (if i < r then i else i + 1) p * v * A r k) (by omega)
      obtain ⟨s, hs⟩ : ∃ s, s = gsum p (fun k => A r k * x k) := ⟨_, rfl⟩
      refine ⟨fun k => if k = p then v * s else x k, ⟨k0, by omega, by show (if k0 = p then v * s else x k0) ≠ 0; rw [if_neg (by omega)]; exact hx0⟩, fun i hi => ?_⟩
      have hsum : gsum (p + 1) (fun k => A i k * (if k = p then v * s else x k)) = gsum p (fun k => A i k * x k) + A i p * (v * s) := by
        rw [gsum, if_pos rfl]
        congr 1
        exact gsum_congr fun k hk => by rw [if_neg (by omega)]
      rw [hsum]
      by_cases hir : i = r
      · subst hir
        rw [← G.mul_assoc, hv1, G.one_mul, hs, G.add_self]
      · obtain ⟨j, hj, hji⟩ : ∃ j, j < q ∧ (if j < r then j else j + 1) = i := by
          by_cases hlt : i < r
          · exact ⟨i, by omega, if_pos hlt⟩
          · exact ⟨i - 1, by omega, by rw [if_neg (by omega)]; omega⟩
        have h1 := hx j hj
        simp only [hji] at h1
        have h2 : gsum p (fun k => (A i k + A i p * v * A r k) * x k) = gsum p (fun k => A i k * x k) + A i p * v * s := by
          rw [hs, mul_gsum, ← gsum_add]
          exact gsum_congr fun k _ => by rw [G.add_mul, G.mul_assoc]
        rw [h2] at h1
        rw [← G.mul_assoc]; exact h1
theorem inv_two {n : Nat} {P Q : Nat → Nat → G} (h : ∀ i, i < n → ∀ j, j < n → gsum n (fun k => P i k * Q k j) = dlt i j) : ∀ i, i < n → ∀ j, j < n → gsum n (fun k => Q i k * P k j) = dlt i j := by
  intro i0 hi0 k hk
  refine Classical.byContradiction fun hne => ?_
  obtain ⟨z, hz⟩ : ∃ z : Nat → G, z = fun i => dlt i k + gsum n (fun j => Q i j * P j k) := ⟨_, rfl⟩
  have hz0 : z i0 ≠ 0 := fun e => hne (by rw [hz] at e; exact (G.add_cancel e).symm)
  obtain ⟨u, ⟨m, hm, hum⟩, hu⟩ := hom n (n + 1) (fun i j => if j < n then Q i j else z i) (by omega)
  have hs : ∀ i, i < n → gsum n (fun j => Q i j * u j) + z i * u n = 0 := fun i hi => by
    have := hu i hi
    rw [gsum, if_neg (by omega)] at this
    rw [← this]
    congr 1
    exact gsum_congr fun j hj => by rw [if_pos hj]
  have hPz : ∀ i, i < n → gsum n (fun l => P i l * z l) = 0 := fun i hi => by
    have e1 : gsum n (fun l => P i l * z l) = gsum n (fun l => P i l * dlt l k) + gsum n (fun l => P i l * gsum n (fun j => Q l j * P j k)) := by
      rw [← gsum_add]; exact gsum_congr fun l _ => by rw [hz, G.mul_add]
    rw [e1, gsum_dlt' hk, ← gsum_assoc]
    have e2 : gsum n (fun j => gsum n (fun l => P i l * Q l j) * P j k) = gsum n (fun j => dlt i j * P j k) := gsum_congr fun j hj => by rw [h i hi j hj]
    rw [e2, gsum_dlt hi, G.add_self]
  have hu0 : ∀ i, i < n → u i = 0 := fun i hi => by
    have e1 : gsum n (fun l => P i l * (gsum n (fun j => Q l j * u j) + z l * u n)) = 0 := gsum_zero fun l hl => by rw [hs l hl, G.mul_zero]
    have e2 : gsum n (fun l => P i l * (gsum n (fun j => Q l j * u j) + z l * u n)) = gsum n (fun l => P i l * gsum n (fun j => Q l j * u j)) + gsum n (fun l => P i l * z l) * u n := by
      rw [gsum_mul, ← gsum_add]; exact gsum_congr fun l _ => by rw [G.mul_add, G.mul_assoc]
    rw [e2, hPz i hi, G.zero_mul, G.add_zero, ← gsum_assoc] at e1
    have e3 : gsum n (fun j => gsum n (fun l => P i l * Q l j) * u j) = gsum n (fun j => dlt i j * u j) := gsum_congr fun j hj => by rw [h i hi j hj]
    rw [e3, gsum_dlt hi] at e1
    exact e1
  have hmn : m = n := Classical.byContradiction fun e => hum (hu0 m (by omega))
  subst hmn
  have := hs i0 hi0
  rw [gsum_zero fun j hj => by rw [hu0 j hj, G.mul_zero], G.zero_add] at this
  rcases mul_eq_zero_iff.1 this with e | e
  · exact hz0 e
  · exact hum e
end Go.Proofs.YtdcijljfgcjelaaGreat
namespace Go.Proofs.YtdcijljfgcjelaaGreat
set_option maxRecDepth 20000
open Go.RowKit
set_option maxHeartbeats 1000000 in
theorem fused_any (v1 v2 : Value) (dst src : List G) (c : G) (w : World) (hlen : dst.length = src.length) (hsz : dst.length ≤ 1000000) (h1 : Sl w 1 v1 dst.length (bvs dst)) (h2 : Sl w 1 v2 src.length (bvs src)) :
    Calls Tryz.prog 141 #[v1, v2, bv c] w fun e w' => ∃ v, e = .returned (.tuple #[v, iv 0]) ∧
      w'.ownsRow w.heap.size 5 1 v dst.length (bvs (gfused dst src c)) ∧ Below w.heap.size w w' := by
  obtain ⟨A1, c1, rfl, hc1, hm1, h1⟩ := h1.open_
  obtain ⟨A2, c2, rfl, hc2, hm2, h2⟩ := h2.open_
  obtain ⟨n, hn⟩ : ∃ n, n = dst.length := ⟨_, rfl⟩
  rw [← hlen, ← hn] at h2
  rw [← hn] at h1
  have ne : ((n : Int) != (n : Int)) = false := by simp
  have H : dst.length = n ∧ src.length = n := ⟨hn.symm, by omega⟩
  rw [← hlen, ← hn]
  clear hlen
  have HN := Lib.hid hn
  have HL := Lib.hid H
  rw [← hn] at hsz
  clear hn H
  go_enter Tryz.func141, Tryz.ntmps141
  go_wp2_with (at_make; refine wpList_make elB rfl _ _ rfl _ _ n rfl rfl (by omega) (by unfold maxLen; omega) ?_; intro w1 hown hb1)
  have hb1' := hb1
  have HF : Hid ((bvs (gfused dst src c)).length = n) := by show _ = _; rw [bvs, List.length_map, gfused_length _ _ _ (by rw [HL.out.1, HL.out.2]), HL.out.1]
  go_loopw [20] (fun i wr => ∃ k : Nat, k ≤ n ∧ i = iv k ∧ wr.ownsRow w.heap.size 5 1 (.slice (some ⟨w.heap.size, 0, none⟩) n n) n (fillv (bvs (gfused dst src c)) (.int .u8 0) k) ∧ Below w.heap.size w wr) (fun i _ => n - (intOf i).toNat)
  case atStart => exact ⟨0, by omega, rfl, by rw [fillv_zero, HF.out]; rw [show (Value.int .u8 0).cells = #[Value.int .u8 0] from rfl, made_one] at hown; exact hown, hb1⟩
  case round =>
    obtain ⟨k, hk, rfl, hown1, hbel⟩ := hrel
    clear hown hb1 hb1'
    by_cases hlt : k < n
    · obtain ⟨ad1, u1, rfl, hu1, hl1, hx1⟩ := h1.at_ hlt
      obtain ⟨ad2, u2, rfl, hu2, hl2, hx2⟩ := h2.at_ hlt
      have hd : k < dst.length := by rw [HL.out.1]; exact hlt
      have hs : k < src.length := by rw [HL.out.2]; exact hlt
      obtain rfl : bv dst[k] = u1 := by simpa [bvs, List.getElem?_map, List.getElem?_eq_getElem hd] using hu1
      obtain rfl : bv src[k] = u2 := by simpa [bvs, List.getElem?_map, List.getElem?_eq_getElem hs] using hu2
      have hy1 := (hbel.cell (by rw [addBlock]; exact hl1)).trans hx1
      have hy2 := (hbel.cell (by rw [addBlock]; exact hl2)).trans hx2
      have hy3 := hown1.cellAt k (by omega)
      have hy4 := hown1.frozenAt k
      have hfr := fillv_rest (z := .int .u8 0) (Nat.le_refl k) (by rw [HF.out]; exact hlt)
      rw [hfr] at hy3
      have exor := G.add_val dst[k] (c * src[k])
      clear hx1 hx2 h1 h2 hfr hu1 hu2
      go_wp2_with (fail)
      refine wp_region_still_tail 14 fol (by kernel_rfl) ?_
      simp only [List.take_succ_cons, List.take_zero, List.drop_succ_cons, List.drop_zero]
      repeat (first | still_step | still_call (still_of (mul_any _ _ _)))
      refine wpStill_nil ?_
      change wpList _ _ _ _ _ wr.drew
      go_wp2_with (fail)
      go_roundw
      case rel =>
        have hst := hown1.stored k (.int .u8 ((dst[k] + c * src[k]).val : Int))
        refine ⟨k + 1, by omega, by go_num, ?_, ?_⟩
        · rw [← fillv_set _ _ (.int .u8 ((dst[k] + c * src[k]).val : Int)) (by rw [bvs, List.getElem?_map, gfused_get _ _ _ _ hd hs]; rfl)]
          exact hst.1.drew
        · exact (hbel.setCell (Nat.le_refl _) _).drew
      case measure => simp [intOf]; omega
    · obtain rfl : k = n := by omega
      have hfin := hown1
      rw [show k = (bvs (gfused dst src c)).length from HF.out.symm, fillv_all, HF.out] at hfin
      have HO := Lib.hid hfin
      clear hfin hown1
      go_wp2_with (fail)
      go_ret2
      exact ⟨_, rfl, HO.out, hbel⟩
end Go.Proofs.YtdcijljfgcjelaaGreat
namespace Go.Proofs.YtdcijljfgcjelaaGreat
set_option maxRecDepth 20000
open Go.RowKit
attribute [local irreducible] Calls
theorem nth_put {α : Type} [Inhabited α] {l : List α} {k : Nat} {a : α} (hk : k < l.length) (j : Nat) : nth (l.set k a) j = if j = k then a else nth l j := by
  unfold nth
  rw [List.getD_eq_getElem?_getD, List.getD_eq_getElem?_getD, List.getElem?_set]
  by_cases h : j = k
  · subst h; rw [if_pos rfl, if_pos hk, if_pos rfl]; rfl
  · rw [if_neg (fun e => h e.symm), if_neg h]
theorem els_len (rs : List Row) : (els rs).length = rs.length := by simp [els]
theorem els_at {rs : List Row} {k : Nat} (h : k < rs.length) : nth (els rs) k = (nth rs k).l := nth_map Row.l h
def Good (m : List (List G)) : Prop := 1 ≤ m.length ∧ m.length ≤ 64 ∧ 1 ≤ (nth m 0).length ∧ (nth m 0).length ≤ 64 ∧ ∀ k, k < m.length → (nth m k).length = (nth m 0).length
def goodB (m : List (List G)) : Bool := decide (1 ≤ m.length) && decide (m.length ≤ 64) && decide (1 ≤ (nth m 0).length) && decide ((nth m 0).length ≤ 64) && (List.range m.length).all fun k => decide ((nth m k).length = (nth m 0).length)
theorem goodB_iff {m : List (List G)} : goodB m = true ↔ Good m := by
  unfold goodB Good
  simp only [Bool.and_eq_true, decide_eq_true_eq, List.all_eq_true, List.mem_range]
  exact ⟨fun ⟨⟨⟨⟨a, b⟩, c⟩, d⟩, e⟩ => ⟨a, b, c, d, e⟩, fun ⟨a, b, c, d, e⟩ => ⟨⟨⟨⟨a, b⟩, c⟩, d⟩, e⟩⟩
theorem goodB_no {m : List (List G)} (h : ¬ Good m) : goodB m = false := by
  cases hb : goodB m with
  | false => rfl
  | true => exact absurd (goodB_iff.1 hb) h
theorem Good.row {rs : List Row} (h : Good (els rs)) {k : Nat} (hk : k < rs.length) : (nth rs k).l.length = (nth rs 0).l.length := by
  have := h.2.2.2.2 k (by rw [els_len]; exact hk)
  rwa [els_at hk, els_at (by omega)] at this
theorem good_of {rs : List Row} (h1 : 1 ≤ rs.length) (h2 : rs.length ≤ 64) (h3 : 1 ≤ (nth rs 0).l.length) (h4 : (nth rs 0).l.length ≤ 64) (h5 : ∀ k, k < rs.length → (nth rs k).l.length = (nth rs 0).l.length) : Good (els rs) := by
  refine ⟨by rw [els_len]; exact h1, by rw [els_len]; exact h2, by rw [els_at (by omega)]; exact h3, by rw [els_at (by omega)]; exact h4, fun k hk => ?_⟩
  rw [els_len] at hk
  rw [els_at hk, els_at (by omega)]; exact h5 k hk
theorem Good.parts {rs : List Row} (h : Good (els rs)) : 1 ≤ rs.length ∧ rs.length ≤ 64 ∧ 1 ≤ (nth rs 0).l.length ∧ (nth rs 0).l.length ≤ 64 := by
  obtain ⟨h1, h2, h3, h4, _⟩ := h
  rw [els_len] at h1 h2
  rw [els_at (by omega)] at h3 h4
  exact ⟨h1, h2, h3, h4⟩
set_option maxHeartbeats 1000000 in
theorem valid_e (v : Value) (rs : List Row) (w : World) (hv : MatAt w v rs) : Calls Tryz.prog 136 #[v] w fun e w' => e = .returned (.bool (goodB (els rs))) ∧ Below w.heap.size w w' := by
  obtain ⟨A, c, rfl, hc, hm, hs⟩ := hv.1.open_
  unfold maxLen at hm
  by_cases h0 : 1 ≤ rs.length ∧ rs.length ≤ 64
  · obtain ⟨h1, h2⟩ := h0
    by_cases h0 : 1 ≤ (nth rs 0).l.length ∧ (nth rs 0).l.length ≤ 64
    · obtain ⟨h3, h4⟩ := h0
      refine calls_wc (args := [.slice A rs.length c]) [2] [] Tryz.func136 rfl Tryz.ntmps136 rfl rfl rfl rfl (H.refl w) ?_
      refine WC.seq fun K hK => ?_
      refine WC.region rfl ?_
      refine wAB rfl rfl rfl rfl rfl ?_
      refine WL.nil (hK _ _ ?_); clear hK
      refine WC.seq fun K hK => ?_
      refine WC.seq fun K hK => ?_
      refine WC.region rfl ?_
      refine wMS rfl rfl rfl rfl rfl ?_
      refine wG rfl rfl (g_len rfl (.mk rfl rfl) rfl) ?_
      refine wG rfl rfl (g_lt rfl (.mk rfl rfl) (.mk rfl rfl) (decide_eq_false (by omega))) ?_
      refine wMB rfl rfl rfl rfl rfl ?_
      refine WL.wantG rfl rfl rfl rfl (WL1.give rfl (g_move rfl (.mk (v := .slice _ _ _) rfl rfl)) ?_)
      refine WL.wantG rfl rfl rfl rfl (WL1.give rfl (g_len rfl (.mk rfl rfl) rfl) ?_)
      refine WL.wantG rfl rfl rfl rfl (WL1.give rfl (g_gt rfl (.mk rfl rfl) (.mk rfl rfl) (decide_eq_false (by omega))) ?_)
      refine wG rfl rfl (g_pickF rfl (.mk rfl rfl) (.mk (v := .bool _) rfl rfl)) ?_
      refine wMB rfl rfl rfl rfl rfl ?_
      refine WL.wantG rfl rfl rfl rfl (WL1.give rfl (g_move rfl (.mk (v := .slice _ _ _) rfl rfl)) ?_)
      refine WL.wantG rfl rfl rfl rfl (WL1.give rfl (g_indexAddr (sz := 1) rfl (.mk rfl rfl) (.mk rfl rfl) rfl rfl (show _ = ((0 : Nat) : Int) from rfl) (by omega) (fun _ _ => sl_some hs (by omega))) ?_)
      refine WL.wantG rfl rfl rfl rfl (WL1.give rfl (g_load rfl (.mk rfl rfl) rfl (rd_sl hs (get1 (by omega)))) ?_)
      refine WL.wantG rfl rfl rfl rfl (WL1.give rfl (g_len rfl (.mk rfl rfl) rfl) ?_)
      refine WL.wantG rfl rfl rfl rfl (WL1.give rfl (g_lt rfl (.mk rfl rfl) (.mk rfl rfl) (decide_eq_false (by omega))) ?_)
      refine wG rfl rfl (g_pickF rfl (.mk rfl rfl) (.mk (v := .bool _) rfl rfl)) ?_
      refine wMB rfl rfl rfl rfl rfl ?_
      refine WL.wantG rfl rfl rfl rfl (WL1.give rfl (g_move rfl (.mk (v := .slice _ _ _) rfl rfl)) ?_)
      refine WL.wantG rfl rfl rfl rfl (WL1.give rfl (g_indexAddr (sz := 1) rfl (.mk rfl rfl) (.mk rfl rfl) rfl rfl (show _ = ((0 : Nat) : Int) from rfl) (by omega) (fun _ _ => sl_some hs (by omega))) ?_)
      refine WL.wantG rfl rfl rfl rfl (WL1.give rfl (g_load rfl (.mk rfl rfl) rfl (rd_sl hs (get1 (by omega)))) ?_)
      refine WL.wantG rfl rfl rfl rfl (WL1.give rfl (g_len rfl (.mk rfl rfl) rfl) ?_)
      refine WL.wantG rfl rfl rfl rfl (WL1.give rfl (g_gt rfl (.mk rfl rfl) (.mk rfl rfl) (decide_eq_false (by omega))) ?_)
      refine wG rfl rfl (g_pickF rfl (.mk rfl rfl) (.mk (v := .bool _) rfl rfl)) ?_
      refine WL.nil (hK _ _ ?_); clear hK
      refine WC.cond_false (.mk rfl rfl) ?_
      refine WC.skip ?_
      (refine hK _ _ ?_; clear hK)
      refine WC.seq fun K hK => ?_
      refine WC.seq fun K hK => ?_
      refine WC.region rfl ?_
      refine wMS rfl rfl rfl rfl rfl ?_
      refine wG rfl rfl (g_len rfl (.mk rfl rfl) rfl) ?_
      refine wMI rfl rfl rfl rfl rfl ?_
      refine WL.nil (hK _ _ ?_); clear hK
      refine WC.block ?_
      refine WC.loop (2198486384660) (fun k : Nat => [(29, iv k)]) (fun _ => []) (fun k => k ≤ rs.length ∧ ∀ j, j < k → (nth rs j).l.length = (nth rs 0).l.length) (fun k => rs.length - k) 0 ⟨rfl, trivial⟩ (List.nil_sublist _) ⟨by omega, fun j hj => absurd hj (by omega)⟩ ?_
      rintro k U ⟨hk, hq⟩
      by_cases hlt : k < rs.length
      · by_cases he : (nth rs k).l.length = (nth rs 0).l.length
        · refine WC.seq fun K hK => ?_
          refine WC.region rfl ?_
          refine wG rfl rfl (g_lt rfl (.mk rfl rfl) (.mk rfl rfl) (decide_eq_true (by omega))) ?_
          refine WL.nil (hK _ _ ?_); clear hK
          refine WC.seq fun K hK => ?_
          refine WC.cond_true (.mk rfl rfl) ?_
          refine WC.skip ?_
          (refine hK _ _ ?_; clear hK)
          refine WC.seq fun K hK => ?_
          refine WC.block ?_
          refine WC.seq fun K hK => ?_
          refine WC.region rfl ?_
          refine wG rfl rfl (g_indexAddr (sz := 1) rfl (.mk rfl rfl) (.mk rfl rfl) rfl rfl rfl (by omega) (fun _ _ => sl_some hs (by omega))) ?_
          refine wG rfl rfl (g_load rfl (.mk rfl rfl) rfl (rd_sl hs (get1 (by omega)))) ?_
          refine wAS rfl rfl rfl rfl rfl ?_
          refine WL.nil (hK _ _ ?_); clear hK
          refine WC.seq fun K hK => ?_
          refine WC.region rfl ?_
          refine wMS rfl rfl rfl rfl rfl ?_
          refine wG rfl rfl (g_len rfl (.mk rfl rfl) rfl) ?_
          refine wMS rfl rfl rfl rfl rfl ?_
          refine wG rfl rfl (g_indexAddr (sz := 1) rfl (.mk rfl rfl) (.mk rfl rfl) rfl rfl (show _ = ((0 : Nat) : Int) from rfl) (by omega) (fun _ _ => sl_some hs (by omega))) ?_
          refine wG rfl rfl (g_load rfl (.mk rfl rfl) rfl (rd_sl hs (get1 (by omega)))) ?_
          refine wG rfl rfl (g_len rfl (.mk rfl rfl) rfl) ?_
          refine wG rfl rfl (g_ne rfl (.mk rfl rfl) (.mk rfl rfl) (decide_eq_false (by omega))) ?_
          refine WL.nil (hK _ _ ?_); clear hK
          refine WC.cond_false (.mk rfl rfl) ?_
          refine WC.skip ?_
          (refine hK _ _ ?_; clear hK)
          refine WC.region rfl ?_
          refine wG rfl rfl (g_add rfl (.mk rfl rfl) (.mk rfl rfl) (IntWalk.i64_in _ (by omega))) ?_
          refine wMI rfl rfl rfl rfl rfl ?_
          refine WL.nil ?_
          refine ⟨k + 1, (by repeat (first | with_reducible exact Out.refl _ _ | refine Out.set rfl ?_ | refine Out.put rfl ?_ | refine Out.sets rfl ?_ | refine Out.hav rfl ?_ | exact Out.refl _ _)), ⟨rfl, trivial⟩, .refl _, ⟨by omega, fun j hj => ?_⟩, by omega⟩
          by_cases e : j = k
          · rw [e]; exact he
          · exact hq j (by omega)
        · refine WC.seq fun K hK => ?_
          refine WC.region rfl ?_
          refine wG rfl rfl (g_lt rfl (.mk rfl rfl) (.mk rfl rfl) (decide_eq_true (by omega))) ?_
          refine WL.nil (hK _ _ ?_); clear hK
          refine WC.seq fun K hK => ?_
          refine WC.cond_true (.mk rfl rfl) ?_
          refine WC.skip ?_
          (refine hK _ _ ?_; clear hK)
          refine WC.seq fun K hK => ?_
          refine WC.block ?_
          refine WC.seq fun K hK => ?_
          refine WC.region rfl ?_
          refine wG rfl rfl (g_indexAddr (sz := 1) rfl (.mk rfl rfl) (.mk rfl rfl) rfl rfl rfl (by omega) (fun _ _ => sl_some hs (by omega))) ?_
          refine wG rfl rfl (g_load rfl (.mk rfl rfl) rfl (rd_sl hs (get1 (by omega)))) ?_
          refine wAS rfl rfl rfl rfl rfl ?_
          refine WL.nil (hK _ _ ?_); clear hK
          refine WC.seq fun K hK => ?_
          refine WC.region rfl ?_
          refine wMS rfl rfl rfl rfl rfl ?_
          refine wG rfl rfl (g_len rfl (.mk rfl rfl) rfl) ?_
          refine wMS rfl rfl rfl rfl rfl ?_
          refine wG rfl rfl (g_indexAddr (sz := 1) rfl (.mk rfl rfl) (.mk rfl rfl) rfl rfl (show _ = ((0 : Nat) : Int) from rfl) (by omega) (fun _ _ => sl_some hs (by omega))) ?_
          refine wG rfl rfl (g_load rfl (.mk rfl rfl) rfl (rd_sl hs (get1 (by omega)))) ?_
          refine wG rfl rfl (g_len rfl (.mk rfl rfl) rfl) ?_
          refine wG rfl rfl (g_ne rfl (.mk rfl rfl) (.mk rfl rfl) (decide_eq_true (by omega))) ?_
          refine WL.nil (hK _ _ ?_); clear hK
          refine WC.cond_true (.mk rfl rfl) ?_
          refine WC.seq fun K hK => ?_
          refine WC.region rfl ?_
          refine wAB rfl rfl rfl rfl rfl ?_
          refine WL.nil (hK _ _ ?_); clear hK
          refine WC.ret ?_
          exact fun w' hw' => ⟨by rw [goodB_no fun h => he (h.row hlt)]; rfl, hw'.1⟩
      · obtain rfl : k = rs.length := by omega
        refine WC.seq fun K hK => ?_
        refine WC.region rfl ?_
        refine wG rfl rfl (g_lt rfl (.mk rfl rfl) (.mk rfl rfl) (decide_eq_false (by omega))) ?_
        refine WL.nil (hK _ _ ?_); clear hK
        refine WC.seq fun K hK => ?_
        refine WC.cond_false (.mk rfl rfl) ?_
        refine WC.exit ?_
        (clear hK; refine hK _ _ ?_; clear hK)
        refine WC.seq fun K hK => ?_
        refine WC.region rfl ?_
        refine wAB rfl rfl rfl rfl rfl ?_
        refine WL.nil (hK _ _ ?_); clear hK
        refine WC.ret ?_
        exact fun w' hw' => ⟨by rw [goodB_iff.2 (good_of h1 h2 h3 h4 hq)]; rfl, hw'.1⟩
    · have hn : goodB (els rs) = false := goodB_no fun h => h0 ⟨h.parts.2.2.1, h.parts.2.2.2⟩
      refine calls_wc (args := [.slice A rs.length c]) [2] [] Tryz.func136 rfl Tryz.ntmps136 rfl rfl rfl rfl (H.refl w) ?_
      refine WC.seq fun K hK => ?_
      refine WC.region rfl ?_
      refine wAB rfl rfl rfl rfl rfl ?_
      refine WL.nil (hK _ _ ?_); clear hK
      refine WC.seq fun K hK => ?_
      refine WC.seq fun K hK => ?_
      refine WC.region rfl ?_
      refine wMS rfl rfl rfl rfl rfl ?_
      refine wG rfl rfl (g_len rfl (.mk rfl rfl) rfl) ?_
      refine wG rfl rfl (g_lt rfl (.mk rfl rfl) (.mk rfl rfl) (decide_eq_false (by omega))) ?_
      refine wMB rfl rfl rfl rfl rfl ?_
      refine WL.wantG rfl rfl rfl rfl (WL1.give rfl (g_move rfl (.mk (v := .slice _ _ _) rfl rfl)) ?_)
      refine WL.wantG rfl rfl rfl rfl (WL1.give rfl (g_len rfl (.mk rfl rfl) rfl) ?_)
      refine WL.wantG rfl rfl rfl rfl (WL1.give rfl (g_gt rfl (.mk rfl rfl) (.mk rfl rfl) (decide_eq_false (by omega))) ?_)
      refine wG rfl rfl (g_pickF rfl (.mk rfl rfl) (.mk (v := .bool _) rfl rfl)) ?_
      refine wMB rfl rfl rfl rfl rfl ?_
      refine WL.wantG rfl rfl rfl rfl (WL1.give rfl (g_move rfl (.mk (v := .slice _ _ _) rfl rfl)) ?_)
      refine WL.wantG rfl rfl rfl rfl (WL1.give rfl (g_indexAddr (sz := 1) rfl (.mk rfl rfl) (.mk rfl rfl) rfl rfl (show _ = ((0 : Nat) : Int) from rfl) (by omega) (fun _ _ => sl_some hs (by omega))) ?_)
      refine WL.wantG rfl rfl rfl rfl (WL1.give rfl (g_load rfl (.mk rfl rfl) rfl (rd_sl hs (get1 (by omega)))) ?_)
      refine WL.wantG rfl rfl rfl rfl (WL1.give rfl (g_len rfl (.mk rfl rfl) rfl) ?_)
      refine WL.wantG rfl rfl rfl rfl (WL1.giveD rfl (g_lt rfl (.mk rfl rfl) (.mk rfl rfl) rfl) (fun _ => ?_) (fun _ => ?_))
      refine wG rfl rfl (g_pickF rfl (.mk rfl rfl) (.mk (v := .bool _) rfl rfl)) ?_
      refine wMB rfl rfl rfl rfl rfl ?_
      refine WL.skipG rfl rfl rfl rfl rfl rfl ?_
      refine WL.skipG rfl rfl rfl rfl rfl rfl ?_
      refine WL.skipG rfl rfl rfl rfl rfl rfl ?_
      refine WL.skipG rfl rfl rfl rfl rfl rfl ?_
      refine WL.skipG rfl rfl rfl rfl rfl rfl ?_
      refine wG rfl rfl (g_pickT rfl (.mk rfl rfl) (.mk (v := .bool _) rfl rfl)) ?_
      refine WL.nil (hK _ _ ?_); clear hK
      refine WC.cond_true (.mk rfl rfl) ?_
      refine WC.seq fun K hK => ?_
      refine WC.region rfl ?_
      refine wAB rfl rfl rfl rfl rfl ?_
      refine WL.nil (hK _ _ ?_); clear hK
      refine WC.ret ?_
      rotate_left
      refine wG rfl rfl (g_pickF rfl (.mk rfl rfl) (.mk (v := .bool _) rfl rfl)) ?_
      refine wMB rfl rfl rfl rfl rfl ?_
      refine WL.wantG rfl rfl rfl rfl (WL1.give rfl (g_move rfl (.mk (v := .slice _ _ _) rfl rfl)) ?_)
      refine WL.wantG rfl rfl rfl rfl (WL1.give rfl (g_indexAddr (sz := 1) rfl (.mk rfl rfl) (.mk rfl rfl) rfl rfl (show _ = ((0 : Nat) : Int) from rfl) (by omega) (fun _ _ => sl_some hs (by omega))) ?_)
      refine WL.wantG rfl rfl rfl rfl (WL1.give rfl (g_load rfl (.mk rfl rfl) rfl (rd_sl hs (get1 (by omega)))) ?_)
      refine WL.wantG rfl rfl rfl rfl (WL1.give rfl (g_len rfl (.mk rfl rfl) rfl) ?_)
      refine WL.wantG rfl rfl rfl rfl (WL1.give rfl (g_gt rfl (.mk rfl rfl) (.mk rfl rfl) (decide_eq_true (by omega))) ?_)
      refine wG rfl rfl (g_pickF rfl (.mk rfl rfl) (.mk (v := .bool _) rfl rfl)) ?_
      refine WL.nil (hK _ _ ?_); clear hK
      refine WC.cond_true (.mk rfl rfl) ?_
      refine WC.seq fun K hK => ?_
      refine WC.region rfl ?_
      refine wAB rfl rfl rfl rfl rfl ?_
      refine WL.nil (hK _ _ ?_); clear hK
      refine WC.ret ?_
      rotate_left
      all_goals exact fun w' hw' => ⟨by rw [hn]; rfl, hw'.1⟩
  · have hn : goodB (els rs) = false := goodB_no fun h => h0 ⟨h.parts.1, h.parts.2.1⟩
    refine calls_wc (args := [.slice A rs.length c]) [2] [] Tryz.func136 rfl Tryz.ntmps136 rfl rfl rfl rfl (H.refl w) ?_
    refine WC.seq fun K hK => ?_
    refine WC.region rfl ?_
    refine wAB rfl rfl rfl rfl rfl ?_
    refine WL.nil (hK _ _ ?_); clear hK
    refine WC.seq fun K hK => ?_
    refine WC.seq fun K hK => ?_
    refine WC.region rfl ?_
    refine wMS rfl rfl rfl rfl rfl ?_
    refine wG rfl rfl (g_len rfl (.mk rfl rfl) rfl) ?_
    refine WL.want rfl (WL1.giveD rfl (g_lt rfl (.mk rfl rfl) (.mk rfl rfl) rfl) (fun _ => ?_) (fun _ => ?_))
    refine wMB rfl rfl rfl rfl rfl ?_
    refine WL.skipG rfl rfl rfl rfl rfl rfl ?_
    refine WL.skipG rfl rfl rfl rfl rfl rfl ?_
    refine WL.skipG rfl rfl rfl rfl rfl rfl ?_
    refine wG rfl rfl (g_pickT rfl (.mk rfl rfl) (.mk (v := .bool _) rfl rfl)) ?_
    refine wMB rfl rfl rfl rfl rfl ?_
    refine WL.skipG rfl rfl rfl rfl rfl rfl ?_
    refine WL.skipG rfl rfl rfl rfl rfl rfl ?_
    refine WL.skipG rfl rfl rfl rfl rfl rfl ?_
    refine WL.skipG rfl rfl rfl rfl rfl rfl ?_
    refine WL.skipG rfl rfl rfl rfl rfl rfl ?_
    refine wG rfl rfl (g_pickT rfl (.mk rfl rfl) (.mk (v := .bool _) rfl rfl)) ?_
    refine wMB rfl rfl rfl rfl rfl ?_
    refine WL.skipG rfl rfl rfl rfl rfl rfl ?_
    refine WL.skipG rfl rfl rfl rfl rfl rfl ?_
    refine WL.skipG rfl rfl rfl rfl rfl rfl ?_
    refine WL.skipG rfl rfl rfl rfl rfl rfl ?_
    refine WL.skipG rfl rfl rfl rfl rfl rfl ?_
    refine wG rfl rfl (g_pickT rfl (.mk rfl rfl) (.mk (v := .bool _) rfl rfl)) ?_
    refine WL.nil (hK _ _ ?_); clear hK
    refine WC.cond_true (.mk rfl rfl) ?_
    refine WC.seq fun K hK => ?_
    refine WC.region rfl ?_
    refine wAB rfl rfl rfl rfl rfl ?_
    refine WL.nil (hK _ _ ?_); clear hK
    refine WC.ret ?_
    rotate_left
    refine wMB rfl rfl rfl rfl rfl ?_
    refine WL.wantG rfl rfl rfl rfl (WL1.give rfl (g_move rfl (.mk (v := .slice _ _ _) rfl rfl)) ?_)
    refine WL.wantG rfl rfl rfl rfl (WL1.give rfl (g_len rfl (.mk rfl rfl) rfl) ?_)
    refine WL.wantG rfl rfl rfl rfl (WL1.give rfl (g_gt rfl (.mk rfl rfl) (.mk rfl rfl) (decide_eq_true (by omega))) ?_)
    refine wG rfl rfl (g_pickF rfl (.mk rfl rfl) (.mk (v := .bool _) rfl rfl)) ?_
    refine wMB rfl rfl rfl rfl rfl ?_
    refine WL.skipG rfl rfl rfl rfl rfl rfl ?_
    refine WL.skipG rfl rfl rfl rfl rfl rfl ?_
    refine WL.skipG rfl rfl rfl rfl rfl rfl ?_
    refine WL.skipG rfl rfl rfl rfl rfl rfl ?_
    refine WL.skipG rfl rfl rfl rfl rfl rfl ?_
    refine wG rfl rfl (g_pickT rfl (.mk rfl rfl) (.mk (v := .bool _) rfl rfl)) ?_
    refine wMB rfl rfl rfl rfl rfl ?_
    refine WL.skipG rfl rfl rfl rfl rfl rfl ?_
    refine WL.skipG rfl rfl rfl rfl rfl rfl ?_
    refine WL.skipG rfl rfl rfl rfl rfl rfl ?_
    refine WL.skipG rfl rfl rfl rfl rfl rfl ?_
    refine WL.skipG rfl rfl rfl rfl rfl rfl ?_
    refine wG rfl rfl (g_pickT rfl (.mk rfl rfl) (.mk (v := .bool _) rfl rfl)) ?_
    refine WL.nil (hK _ _ ?_); clear hK
    refine WC.cond_true (.mk rfl rfl) ?_
    refine WC.seq fun K hK => ?_
    refine WC.region rfl ?_
    refine wAB rfl rfl rfl rfl rfl ?_
    refine WL.nil (hK _ _ ?_); clear hK
    refine WC.ret ?_
    rotate_left
    all_goals exact fun w' hw' => ⟨by rw [hn]; rfl, hw'.1⟩
theorem fused_n (v1 v2 : Value) (dst src : List G) (c : G) (w : World) (h1 : Sl w 1 v1 dst.length (bvs dst)) (h2 : Sl w 1 v2 src.length (bvs src)) (hlen : dst.length = src.length) (hsz : dst.length ≤ 1000000) :
    Calls Tryz.prog 141 #[v1, v2, bv c] w fun e w' => ∃ v M, e = .returned v ∧ H w M w' ∧ ∃ A cc, v = .tuple #[.slice A dst.length cc, iv 0] ∧ M = [vec A dst.length cc 5 1 (bvs (gfused dst src c))] :=
  (fused_any v1 v2 dst src c w hlen hsz h1 h2).mono fun e w' ⟨v, he, ho, hb⟩ => by
    obtain ⟨A, cc, rfl, hH⟩ := own_n ho hb
    exact ⟨_, _, he, hH, A, cc, rfl, rfl⟩
def zrow (c : Nat) : List G := List.replicate c 0
theorem els_set {rs : List Row} {k : Nat} (r : Row) : els (rs.set k r) = (els rs).set k r.l := List.map_set
theorem rowsv_put {rs : List Row} {k j : Nat} {x : G} (hk : k < rs.length) : (rs.set k ((nth rs k).put j x)).map Row.v = rs.map Row.v := by
  rw [List.map_set, Row.put_v]
  refine list_ext_nth' ?_
  intro j
  by_cases e : j = k
  · subst e; rw [List.getElem?_set_self (by simpa using hk), List.getElem?_map, nth_get hk]; rfl
  · rw [List.getElem?_set_ne (fun h => e h.symm)]
where
  list_ext_nth' {l m : List Value} (h : ∀ i : Nat, l[i]? = m[i]?) : l = m := List.ext_getElem? h
end Go.Proofs.YtdcijljfgcjelaaGreat
namespace Go.Proofs.YtdcijljfgcjelaaGreat
set_option maxRecDepth 20000
open Go.RowKit
attribute [local irreducible] Calls
abbrev matM (A : Option Addr) (c : Nat) (rs : List Row) : List Asrt := [vec A rs.length c 99 1 (rs.map Row.v), rowsA rs]
theorem nilrow_set (rs : List Row) (r : Row) {n k : Nat} (h : rs.length = k) (hk : k < n) {i : Nat} (hi : i = k * 1) : (rs.map Row.v ++ List.replicate (n - k) (Value.slice none 0 0)).set i r.v = (rs ++ [r]).map Row.v ++ List.replicate (n - (k + 1)) (Value.slice none 0 0) := by
  rw [hi, Nat.mul_one, List.set_append_right _ _ (by rw [List.length_map]; omega), List.length_map, h, Nat.sub_self, show n - k = (n - (k + 1)) + 1 from by omega, List.replicate_succ, List.set_cons_zero, List.map_append, List.append_assoc]
  rfl
theorem els_add (rs : List Row) (r : Row) : els (rs ++ [r]) = els rs ++ [r.l] := by simp [els]
theorem zrow_own (b c : Nat) : (⟨some ⟨b, 0, none⟩, c, zrow c⟩ : Row).own = vec (some ⟨b, 0, none⟩) c c 5 1 (bvs (zrow c)) := by
  show vec _ (zrow c).length c _ _ _ = _
  rw [zrow, List.length_replicate]
theorem zrow_v (b c : Nat) : (⟨some ⟨b, 0, none⟩, c, zrow c⟩ : Row).v = .slice (some ⟨b, 0, none⟩) c c := by
  show Value.slice _ (zrow c).length c = _
  rw [zrow, List.length_replicate]
set_option maxHeartbeats 1000000 in
theorem blank_n (n c : Nat) (w : World) (hn : n ≤ 1000) (hc : c ≤ 1000) : Calls Tryz.prog 137 #[iv n, iv c] w fun e w' => ∃ v' M, e = .returned v' ∧ H w M w' ∧
    ∃ A cc rs, v' = .slice A rs.length cc ∧ M = matM A cc rs ∧ els rs = List.replicate n (zrow c) ∧ rs.length = n := by
  refine calls_wc (args := [iv n, iv c]) [4] [] Tryz.func137 rfl Tryz.ntmps137 rfl rfl rfl rfl (H.refl w) ?_
  refine WC.seq fun K hK => ?_
  refine WC.region rfl ?_
  refine wAS rfl rfl rfl rfl rfl ?_
  refine WL.nil (hK _ _ ?_); clear hK
  refine WC.seq fun K hK => ?_
  refine WC.region rfl ?_
  refine wMI rfl rfl rfl rfl rfl ?_
  refine WL.want rfl (WL1.make elR rfl rfl (.mk rfl rfl) (.mk rfl rfl) rfl rfl (by omega) (by unfold maxLen; omega) (fun b8 => ?_))
  refine wAS rfl rfl rfl rfl rfl ?_
  refine WL.nil (hK _ _ ?_); clear hK
  refine WC.seq fun K hK => ?_
  refine WC.seq fun K hK => ?_
  refine WC.region rfl ?_
  refine wMS rfl rfl rfl rfl rfl ?_
  refine wG rfl rfl (g_len rfl (.mk rfl rfl) rfl) ?_
  refine wMI rfl rfl rfl rfl rfl ?_
  refine WL.nil (hK _ _ ?_); clear hK
  refine WC.block ?_
  refine WC.loopI2 (1046592) (fun (k : Nat) (rs : List Row) => [(11, iv k)]) (fun k rs => [vec (some ⟨b8, 0, none⟩) n n 99 1 (rs.map Row.v ++ List.replicate (n - k) (Value.slice none 0 0)), rowsA rs]) (fun k rs => k ≤ n ∧ rs.length = k ∧ els rs = List.replicate k (zrow c)) (fun k _ => n - k) 0 [] ⟨rfl, trivial⟩ ?_ ⟨by omega, rfl, rfl⟩ ?_
  · refine Imp.trans ?_ (Imp.cons (Imp.rows_nil []))
    rw [show (Value.slice none 0 0).cells = #[.slice none 0 0] from rfl, made_one]
    exact .refl _
  · rintro k rs U ⟨hk, hrl, hre⟩
    have hll : (rs.map Row.v ++ List.replicate (n - k) (Value.slice none 0 0)).length = n := by simp; omega
    by_cases hlt : k < n
    · refine WC.seq fun K hK => ?_
      refine WC.region rfl ?_
      refine wG rfl rfl (g_lt rfl (.mk rfl rfl) (.mk rfl rfl) (decide_eq_true (by omega))) ?_
      refine WL.nil (hK _ _ ?_); clear hK
      refine WC.seq fun K hK => ?_
      refine WC.cond_true (.mk rfl rfl) ?_
      refine WC.skip ?_
      (refine hK _ _ ?_; clear hK)
      refine WC.seq fun K hK => ?_
      refine WC.block ?_
      refine WC.seq fun K hK => ?_
      refine WC.region rfl ?_
      refine wMI rfl rfl rfl rfl rfl ?_
      refine wAI rfl rfl rfl rfl rfl ?_
      refine WL.nil (hK _ _ ?_); clear hK
      refine WC.region rfl ?_
      refine wMS rfl rfl rfl rfl rfl ?_
      refine wMI rfl rfl rfl rfl rfl ?_
      refine wMI rfl rfl rfl rfl rfl ?_
      refine WL.want rfl (WL1.make elB rfl rfl (.mk rfl rfl) (.mk rfl rfl) rfl rfl (by omega) (by unfold maxLen; omega) (fun b17 => ?_))
      refine wG rfl rfl (g_indexAddr (sz := 1) rfl (.mk rfl rfl) (.mk rfl rfl) rfl rfl rfl (by omega) (fun _ _ => rfl)) ?_
      refine WL.want rfl (WL1.storeV1 rfl rfl (.mk rfl rfl) (.mk (v := .slice _ _ _) rfl rfl) rfl rfl (by first | omega | (simp; done) | (simp; omega)) (.tail (.head)) ?_)
      refine WL.nil (hK _ _ ?_); clear hK
      refine WC.region rfl ?_
      refine wG rfl rfl (g_add rfl (.mk rfl rfl) (.mk rfl rfl) (IntWalk.i64_in _ (by omega))) ?_
      refine wMI rfl rfl rfl rfl rfl ?_
      refine WL.nil ?_
      refine ⟨k + 1, rs ++ [⟨some ⟨b17, 0, none⟩, c, zrow c⟩], (by repeat (first | with_reducible exact Out.refl _ _ | refine Out.set rfl ?_ | refine Out.put rfl ?_ | refine Out.sets rfl ?_ | refine Out.hav rfl ?_ | exact Out.refl _ _)), ⟨rfl, trivial⟩, ?_, ⟨by omega, by simp [hrl], by rw [els_add, hre, List.replicate_succ']⟩, by omega⟩
      rw [← nilrow_set rs ⟨some ⟨b17, 0, none⟩, c, zrow c⟩ hrl hlt rfl, zrow_v]
      refine Imp.add2 ?_ (.tail .head)
      rw [zrow_own, zrow, ← madeU]
      exact .head
    · obtain rfl : k = n := by omega
      refine WC.seq fun K hK => ?_
      refine WC.region rfl ?_
      refine wG rfl rfl (g_lt rfl (.mk rfl rfl) (.mk rfl rfl) (decide_eq_false (by omega))) ?_
      refine WL.nil (hK _ _ ?_); clear hK
      refine WC.seq fun K hK => ?_
      refine WC.cond_false (.mk rfl rfl) ?_
      refine WC.exit ?_
      (clear hK; refine hK _ _ ?_; clear hK)
      refine WC.seq fun K hK => ?_
      refine WC.region rfl ?_
      refine wMS rfl rfl rfl rfl rfl ?_
      refine wAS rfl rfl rfl rfl rfl ?_
      refine WL.nil (hK _ _ ?_); clear hK
      refine WC.ret ?_
      exact fun w' hw' => ⟨_, _, rfl, hw', some ⟨b8, 0, none⟩, k, rs, by rw [hrl]; rfl, by rw [Nat.sub_self, List.replicate_zero, List.append_nil, matM, hrl], hre, hrl⟩
def idM (n : Nat) : List (List G) := (List.range n).map fun i => (List.range n).map fun k => dlt i k
def idP (n k : Nat) : List (List G) := (List.range n).map fun i => if i < k then (List.range n).map fun k => dlt i k else zrow n
theorem idP_zero (n : Nat) : idP n 0 = List.replicate n (zrow n) := by
  refine List.ext_getElem (by simp [idP]) fun i h1 h2 => ?_
  simp [idP]
theorem idP_all (n : Nat) : idP n n = idM n := List.map_congr_left fun i hi => if_pos (by simpa using hi)
theorem idP_len (n k : Nat) : (idP n k).length = n := by simp [idP]
theorem zrow_nth {c j : Nat} (h : j < c) : nth (zrow c) j = 0 := by rw [nth_eq (by simpa [zrow] using h)]; simp [zrow]
theorem zrow_len (c : Nat) : (zrow c).length = c := by simp [zrow]
theorem unit_row {n k : Nat} (h : k < n) : (zrow n).set k 1 = (List.range n).map fun j => dlt k j :=
  list_ext_nth (by rw [List.length_set, zrow_len]; simp) fun j hj => by
    rw [List.length_set, zrow_len] at hj
    rw [nth_range _ hj, nth_put (by rw [zrow_len]; exact h)]
    by_cases e : j = k
    · rw [if_pos e, e, dlt_self]
    · rw [if_neg e, zrow_nth hj, dlt_ne (fun h => e h.symm)]
theorem idP_row {n k : Nat} (h : k < n) : nth (idP n k) k = zrow n := by rw [idP, nth_range _ h, if_neg (by omega)]
theorem idP_set {n k : Nat} (h : k < n) : (idP n k).set k ((zrow n).set k 1) = idP n (k + 1) :=
  list_ext_nth (by rw [List.length_set, idP_len, idP_len]) fun j hj => by
    rw [List.length_set, idP_len] at hj
    rw [nth_put (by rw [idP_len]; exact h), unit_row h, idP, idP, nth_range _ hj, nth_range _ hj]
    by_cases e : j = k
    · subst e; rw [if_pos rfl, if_pos (by omega)]
    · rw [if_neg e]
      by_cases e2 : j < k
      · rw [if_pos e2, if_pos (by omega)]
      · rw [if_neg e2, if_neg (by omega)]
theorem els_row {rs : List Row} {m : List (List G)} (h : els rs = m) {k : Nat} (hk : k < rs.length) : (nth rs k).l = nth m k := by rw [← h, els_at hk]
theorem put_els {rs : List Row} {k j : Nat} {x : G} (hk : k < rs.length) : els (rs.set k ((nth rs k).put j x)) = (els rs).set k ((nth (els rs) k).set j x) := by rw [els_set, els_at hk]; rfl
set_option maxHeartbeats 1000000 in
theorem identity_n (n : Nat) (w : World) (h1 : 1 ≤ n) (h2 : n ≤ 64) : Calls Tryz.prog 134 #[iv n] w fun e w' => ∃ v' M, e = .returned v' ∧ H w M w' ∧
    ∃ A cc rs, v' = .tuple #[.slice A rs.length cc, iv 0] ∧ M = matM A cc rs ∧ els rs = idM n ∧ rs.length = n := by
  refine calls_wc (args := [iv n]) [2, 3] [] Tryz.func134 rfl Tryz.ntmps134 rfl rfl rfl rfl (H.refl w) ?_
  refine WC.seq fun K hK => ?_
  refine WC.region rfl ?_
  refine wAS rfl rfl rfl rfl rfl ?_
  refine wAI rfl rfl rfl rfl rfl ?_
  refine WL.nil (hK _ _ ?_); clear hK
  refine WC.seq fun K hK => ?_
  refine WC.seq fun K hK => ?_
  refine WC.region rfl ?_
  refine wMI rfl rfl rfl rfl rfl ?_
  refine wG rfl rfl (g_lt rfl (.mk rfl rfl) (.mk rfl rfl) (decide_eq_false (by omega))) ?_
  refine wMB rfl rfl rfl rfl rfl ?_
  refine WL.wantG rfl rfl rfl rfl (WL1.give rfl (g_move rfl (.mk (v := .int _ _) rfl rfl)) ?_)
  refine WL.wantG rfl rfl rfl rfl (WL1.give rfl (g_gt rfl (.mk rfl rfl) (.mk rfl rfl) (decide_eq_false (by omega))) ?_)
  refine wG rfl rfl (g_pickF rfl (.mk rfl rfl) (.mk (v := .bool _) rfl rfl)) ?_
  refine WL.nil (hK _ _ ?_); clear hK
  refine WC.cond_false (.mk rfl rfl) ?_
  refine WC.skip ?_
  (refine hK _ _ ?_; clear hK)
  refine WC.seq fun K hK => ?_
  refine WC.region rfl ?_
  refine wMI rfl rfl rfl rfl rfl ?_
  refine wMI rfl rfl rfl rfl rfl ?_
  (refine WL.want rfl (WL1.callN rfl rfl rfl (.cons (.mk (v := .int _ _) rfl rfl) (.cons (.mk (v := .int _ _) rfl rfl) .nil)) (fun w hw => blank_n n n w (by omega) (by omega)) ?_); rintro _ _ ⟨A, cc, rs0, rfl, rfl, hre0, hrl0⟩)
  refine wAS rfl rfl rfl rfl rfl ?_
  refine WL.nil (hK _ _ ?_); clear hK
  refine WC.seq fun K hK => ?_
  refine WC.seq fun K hK => ?_
  refine WC.region rfl ?_
  refine wMS rfl rfl rfl rfl rfl ?_
  refine wG rfl rfl (g_len rfl (.mk rfl rfl) rfl) ?_
  refine wMI rfl rfl rfl rfl rfl ?_
  refine WL.nil (hK _ _ ?_); clear hK
  refine WC.block ?_
  refine WC.loopI2 (134086688) (fun (k : Nat) (rs : List Row) => [(17, iv k)]) (fun k rs => [vec A rs0.length cc 99 1 (rs.map Row.v), rowsA rs]) (fun k rs => k ≤ n ∧ rs.length = n ∧ els rs = idP n k) (fun k _ => n - k) 0 rs0 ⟨rfl, trivial⟩ (by rw [List.append_nil]; exact .refl _) ⟨by omega, hrl0, by rw [hre0, idP_zero]⟩ ?_
  rintro k rs U ⟨hk, hrl, hre⟩
  by_cases hlt : k < n
  · have hrow := els_row hre (k := k) (by omega)
    rw [idP_row hlt] at hrow
    have hrl2 : (nth rs k).l.length = n := by rw [hrow, zrow_len]
    refine WC.seq fun K hK => ?_
    refine WC.region rfl ?_
    refine wG rfl rfl (g_lt rfl (.mk rfl rfl) (.mk rfl rfl) (decide_eq_true (by omega))) ?_
    refine WL.nil (hK _ _ ?_); clear hK
    refine WC.seq fun K hK => ?_
    refine WC.cond_true (.mk rfl rfl) ?_
    refine WC.skip ?_
    (refine hK _ _ ?_; clear hK)
    refine WC.seq fun K hK => ?_
    refine WC.block ?_
    refine WC.seq fun K hK => ?_
    refine WC.region rfl ?_
    refine wMI rfl rfl rfl rfl rfl ?_
    refine wAI rfl rfl rfl rfl rfl ?_
    refine WL.nil (hK _ _ ?_); clear hK
    refine WC.region rfl ?_
    refine wMS rfl rfl rfl rfl rfl ?_
    refine wMI rfl rfl rfl rfl rfl ?_
    refine wG rfl rfl (g_indexAddr (sz := 1) rfl (.mk rfl rfl) (.mk rfl rfl) rfl rfl rfl (by omega) (fun w hw => vec_some hw (.head _) (by omega))) ?_
    refine wG rfl rfl (g_load rfl (.mk rfl rfl) rfl (rd_vec (.head _) (get1 (by omega)))) ?_
    refine wMI rfl rfl rfl rfl rfl ?_
    refine wG rfl rfl (g_indexAddr (sz := 1) rfl (.mk rfl rfl) (.mk rfl rfl) rfl rfl rfl (by omega) (rowA_some (.tail _ (.head _)) (by omega) (by omega))) ?_
    refine WL.want rfl (WL1.storeRow (g := 1) rfl rfl (.mk rfl rfl) rfl rfl (.mk rfl rfl) rfl rfl (by omega) (by omega) (.tail (.head)) ?_)
    refine WL.nil (hK _ _ ?_); clear hK
    refine WC.region rfl ?_
    refine wG rfl rfl (g_add rfl (.mk rfl rfl) (.mk rfl rfl) (IntWalk.i64_in _ (by omega))) ?_
    refine wMI rfl rfl rfl rfl rfl ?_
    refine WL.nil ?_
    refine ⟨k + 1, rs.set k ((nth rs k).put k 1), (by repeat (first | with_reducible exact Out.refl _ _ | refine Out.set rfl ?_ | refine Out.put rfl ?_ | refine Out.sets rfl ?_ | refine Out.hav rfl ?_ | exact Out.refl _ _)), ⟨rfl, trivial⟩, by rw [rowsv_put (by omega)]; exact .refl _, ⟨by omega, by rw [List.length_set, hrl], by rw [put_els (by omega), hre, idP_row hlt, idP_set hlt]⟩, by omega⟩
  · obtain rfl : k = n := by omega
    refine WC.seq fun K hK => ?_
    refine WC.region rfl ?_
    refine wG rfl rfl (g_lt rfl (.mk rfl rfl) (.mk rfl rfl) (decide_eq_false (by omega))) ?_
    refine WL.nil (hK _ _ ?_); clear hK
    refine WC.seq fun K hK => ?_
    refine WC.cond_false (.mk rfl rfl) ?_
    refine WC.exit ?_
    (clear hK; refine hK _ _ ?_; clear hK)
    refine WC.seq fun K hK => ?_
    refine WC.region rfl ?_
    refine wMS rfl rfl rfl rfl rfl ?_
    refine wAS rfl rfl rfl rfl rfl ?_
    refine wAI rfl rfl rfl rfl rfl ?_
    refine WL.nil (hK _ _ ?_); clear hK
    refine WC.ret ?_
    exact fun w' hw' => ⟨_, _, rfl, hw', A, cc, rs, by show Value.tuple #[.slice A rs0.length cc, iv 0] = _; rw [hrl, hrl0], by rw [matM, hrl, hrl0], by rw [hre, idP_all], hrl⟩
end Go.Proofs.YtdcijljfgcjelaaGreat
namespace Go.Proofs.YtdcijljfgcjelaaGreat
set_option maxRecDepth 20000
open Go.RowKit
attribute [local irreducible] Calls
def prg {α : Type} (n : Nat) (f : Nat → α) (z g : α) (i : Nat) : List α := (List.range n).map fun q => if q < i then f q else if q = i then g else z
section
variable {α : Type} {n i : Nat} {f : Nat → α} {z g g' : α}
theorem prg_len : (prg n f z g i).length = n := by simp [prg]
theorem prg_nth [Inhabited α] {q : Nat} (h : q < n) : nth (prg n f z g i) q = if q < i then f q else if q = i then g else z := nth_range _ h
theorem prg_at [Inhabited α] (h : i < n) : nth (prg n f z g i) i = g := by rw [prg_nth h, if_neg (by omega), if_pos rfl]
theorem prg_set [Inhabited α] (h : i < n) : (prg n f z g i).set i g' = prg n f z g' i :=
  list_ext_nth (by rw [List.length_set, prg_len, prg_len]) fun q hq => by
    rw [List.length_set, prg_len] at hq
    rw [nth_put (by rw [prg_len]; exact h), prg_nth hq, prg_nth hq]
    by_cases e : q = i
    · subst e; rw [if_pos rfl, if_neg (by omega), if_pos rfl]
    · rw [if_neg e, if_neg e, if_neg e]
theorem prg_next : prg n f z (f i) i = prg n f z z (i + 1) := List.map_congr_left fun q _ => by
  by_cases e : q < i
  · rw [if_pos e, if_pos (by omega)]
  · by_cases e2 : q = i
    · subst e2; rw [if_neg e, if_pos rfl, if_pos (by omega)]
    · rw [if_neg e, if_neg e2, if_neg (by omega)]
      by_cases e3 : q = i + 1
      · rw [if_pos e3]
      · rw [if_neg e3]
theorem prg_zero : List.replicate n z = prg n f z z 0 := by
  refine List.ext_getElem (by simp [prg]) fun q h1 h2 => ?_
  simp [prg]
theorem prg_all : prg n f z z n = (List.range n).map f := List.map_congr_left fun q hq => if_pos (by simpa using hq)
end
theorem gfused_map {dst src : List G} {n : Nat} (c : G) (h1 : dst.length = n) (h2 : src.length = n) : gfused dst src c = (List.range n).map fun j => nth dst j + c * nth src j :=
  list_ext_nth (by rw [gfused_length _ _ _ (by omega)]; simp [h1]) fun k hk => by
    rw [gfused_length _ _ _ (by omega)] at hk
    rw [nth_range _ (by omega), nth_eq hk, nth_eq (l := src) (by omega)]
    have := gfused_get dst src c k hk (by omega)
    unfold nth
    rw [List.getD_eq_getElem?_getD, this]; rfl
theorem own_of {A : Option Addr} {c m : Nat} {l : List G} (h : l.length = m) : vec A m c 5 1 (bvs l) = (⟨A, c, l⟩ : Row).own := by subst h; rfl
theorem v_of {A : Option Addr} {c m : Nat} {l : List G} (h : l.length = m) : Value.slice A m c = (⟨A, c, l⟩ : Row).v := by subst h; rfl
def el (m : List (List G)) (i j : Nat) : G := nth (nth m i) j
theorem el_row {rs : List Row} {i : Nat} (h : i < rs.length) (j : Nat) : nth (nth rs i).l j = el (els rs) i j := by rw [el, els_at h]
def dot (m : List (List G)) (v : List G) (i k : Nat) : G := gsum k fun j => el m i j * nth v j
def apM (m : List (List G)) (v : List G) : List G := (List.range m.length).map fun i => dot m v i v.length
theorem mul_c (a b : G) (w : World) : Calls Tryz.prog 93 #[bv a, bv b] w fun e w' => e = .returned (bv (a * b)) ∧ w' = w := (mul_any a b w).mono fun _ _ ⟨h1, h2⟩ => ⟨h1, h2.symm⟩
end Go.Proofs.YtdcijljfgcjelaaGreat
namespace Go.Proofs.YtdcijljfgcjelaaGreat
set_option maxRecDepth 20000
open Go.RowKit
attribute [local irreducible] Calls
def mrow (a b : List (List G)) (c i k : Nat) : List G := (List.range c).map fun j => gsum k fun n => el a i n * el b n j
theorem mrow_len (a b : List (List G)) (c i k : Nat) : (mrow a b c i k).length = c := by simp [mrow]
def mulM (a b : List (List G)) : List (List G) := (List.range a.length).map fun i => mrow a b (nth b 0).length i b.length
theorem mrow_zero (a b : List (List G)) (c i : Nat) : mrow a b c i 0 = zrow c := by
  refine list_ext_nth (by rw [mrow_len, zrow_len]) fun j hj => ?_
  rw [mrow_len] at hj
  rw [mrow, nth_range _ hj, zrow_nth hj]; rfl
theorem mrow_step {a b : List (List G)} {c i k : Nat} (hb : (nth b k).length = c) : gfused (mrow a b c i k) (nth b k) (el a i k) = mrow a b c i (k + 1) := by
  rw [gfused_map (n := c) _ (mrow_len _ _ _ _ _) hb]
  refine List.map_congr_left fun j hj => ?_
  have hj' : j < c := by simpa using hj
  rw [mrow, nth_range _ hj']; rfl
set_option maxHeartbeats 2000000 in
theorem mul_n (va vb : Value) (ra rb : List Row) (w : World) (ha : MatAt w va ra) (hb : MatAt w vb rb) (hg : Good (els ra)) (hgb : Good (els rb)) (hl : (nth ra 0).l.length = rb.length) :
    Calls Tryz.prog 92 #[va, vb] w fun e w' => ∃ v' M, e = .returned v' ∧ H w M w' ∧ ∃ A cc rs, v' = .tuple #[.slice A rs.length cc, iv 0] ∧ M = matM A cc rs ∧ els rs = mulM (els ra) (els rb) ∧ rs.length = ra.length := by
  obtain ⟨A, c, rfl, hc, hm, hs⟩ := ha.1.open_
  obtain ⟨A2, c2, rfl, hc2, hm2, hs2⟩ := hb.1.open_
  have hval := fun w' hb => valid_e _ ra w' (ha.below (w' := w') hb)
  have hval2 := fun w' hx => valid_e _ rb w' (hb.below (w' := w') hx)
  rw [goodB_iff.2 hg] at hval
  rw [goodB_iff.2 hgb] at hval2
  obtain ⟨g1, g2, g3, g4⟩ := hg.parts
  obtain ⟨q1, q2, q3, q4⟩ := hgb.parts
  refine calls_wc (args := [.slice A ra.length c, .slice A2 rb.length c2]) [4, 5] [] Tryz.func92 rfl Tryz.ntmps92 rfl rfl rfl rfl (H.refl w) ?_
  refine WC.seq fun K hK => ?_
  refine WC.region rfl ?_
  refine wAS rfl rfl rfl rfl rfl ?_
  refine wAI rfl rfl rfl rfl rfl ?_
  refine WL.nil (hK _ _ ?_); clear hK
  refine WC.seq fun K hK => ?_
  refine WC.seq fun K hK => ?_
  refine WC.region rfl ?_
  refine wMS rfl rfl rfl rfl rfl ?_
  refine WL.want rfl (WL1.callP rfl rfl rfl (.cons (.mk (v := .slice _ _ _) rfl rfl) .nil) (fun w hw => hval w hw.1) ?_)
  refine wG rfl rfl (g_notT rfl (.mk rfl rfl)) ?_
  refine wMB rfl rfl rfl rfl rfl ?_
  refine WL.wantG rfl rfl rfl rfl (WL1.give rfl (g_move rfl (.mk (v := .slice _ _ _) rfl rfl)) ?_)
  refine WL.wantG rfl rfl rfl rfl (WL1.callP rfl rfl rfl (.cons (.mk (v := .slice _ _ _) rfl rfl) .nil) (fun w hw => hval2 w hw.1) ?_)
  refine WL.wantG rfl rfl rfl rfl (WL1.give rfl (g_notT rfl (.mk rfl rfl)) ?_)
  refine wG rfl rfl (g_pickF rfl (.mk rfl rfl) (.mk (v := .bool _) rfl rfl)) ?_
  refine wMB rfl rfl rfl rfl rfl ?_
  refine WL.wantG rfl rfl rfl rfl (WL1.give rfl (g_move rfl (.mk (v := .slice _ _ _) rfl rfl)) ?_)
  refine WL.wantG rfl rfl rfl rfl (WL1.give rfl (g_indexAddr (sz := 1) rfl (.mk rfl rfl) (.mk rfl rfl) rfl rfl (show _ = ((0 : Nat) : Int) from rfl) (by omega) (fun _ _ => sl_some hs (by omega))) ?_)
  refine WL.wantG rfl rfl rfl rfl (WL1.give rfl (g_load rfl (.mk rfl rfl) rfl (rd_sl hs (get1 (by omega)))) ?_)
  refine WL.wantG rfl rfl rfl rfl (WL1.give rfl (g_len rfl (.mk rfl rfl) rfl) ?_)
  refine WL.wantG rfl rfl rfl rfl (WL1.give rfl (g_move rfl (.mk (v := .slice _ _ _) rfl rfl)) ?_)
  refine WL.wantG rfl rfl rfl rfl (WL1.give rfl (g_len rfl (.mk rfl rfl) rfl) ?_)
  refine WL.wantG rfl rfl rfl rfl (WL1.give rfl (g_ne rfl (.mk rfl rfl) (.mk rfl rfl) (decide_eq_false (by omega))) ?_)
  refine wG rfl rfl (g_pickF rfl (.mk rfl rfl) (.mk (v := .bool _) rfl rfl)) ?_
  refine WL.nil (hK _ _ ?_); clear hK
  refine WC.cond_false (.mk rfl rfl) ?_
  refine WC.skip ?_
  (refine hK _ _ ?_; clear hK)
  refine WC.seq fun K hK => ?_
  refine WC.region rfl ?_
  refine wMS rfl rfl rfl rfl rfl ?_
  refine wG rfl rfl (g_len rfl (.mk rfl rfl) rfl) ?_
  refine wMS rfl rfl rfl rfl rfl ?_
  refine wG rfl rfl (g_indexAddr (sz := 1) rfl (.mk rfl rfl) (.mk rfl rfl) rfl rfl (show _ = ((0 : Nat) : Int) from rfl) (by omega) (fun _ _ => sl_some hs2 (by omega))) ?_
  refine wG rfl rfl (g_load rfl (.mk rfl rfl) rfl (rd_sl hs2 (get1 (by omega)))) ?_
  refine wG rfl rfl (g_len rfl (.mk rfl rfl) rfl) ?_
  (refine WL.want rfl (WL1.callN rfl rfl rfl (.cons (.mk (v := .int _ _) rfl rfl) (.cons (.mk (v := .int _ _) rfl rfl) .nil)) (fun w hw => blank_n ra.length (nth rb 0).l.length w (by omega) (by omega)) ?_); rintro _ _ ⟨Ao, co, r0, rfl, rfl, hre0, hrl0⟩)
  refine wAS rfl rfl rfl rfl rfl ?_
  refine WL.nil (hK _ _ ?_); clear hK
  refine WC.seq fun K hK => ?_
  refine WC.seq fun K hK => ?_
  refine WC.region rfl ?_
  refine wMS rfl rfl rfl rfl rfl ?_
  refine wG rfl rfl (g_len rfl (.mk rfl rfl) rfl) ?_
  refine wMI rfl rfl rfl rfl rfl ?_
  refine WL.nil (hK _ _ ?_); clear hK
  refine WC.block ?_
  obtain ⟨F, hF⟩ : ∃ F, F = fun i => mrow (els ra) (els rb) (nth rb 0).l.length i rb.length := ⟨_, rfl⟩
  obtain ⟨z, hz⟩ : ∃ z, z = zrow (nth rb 0).l.length := ⟨_, rfl⟩
  refine WC.loopI2 (147573952452237461376) (fun (i : Nat) (rs : List Row) => [(37, iv i)]) (fun i rs => [vec Ao r0.length co 99 1 (rs.map Row.v), rowsA rs]) (fun i rs => i ≤ ra.length ∧ rs.length = ra.length ∧ els rs = prg ra.length F z z i) (fun i _ => ra.length - i) 0 r0 ⟨rfl, trivial⟩ (by rw [List.append_nil]; exact .refl _) ⟨by omega, hrl0, by rw [hre0, hz, prg_zero]⟩ ?_
  rintro i rs U ⟨hi, hrl, hre⟩
  by_cases hlt : i < ra.length
  · have hral := hg.row hlt
    refine WC.seq fun K hK => ?_
    refine WC.region rfl ?_
    refine wG rfl rfl (g_lt rfl (.mk rfl rfl) (.mk rfl rfl) (decide_eq_true (by omega))) ?_
    refine WL.nil (hK _ _ ?_); clear hK
    refine WC.seq fun K hK => ?_
    refine WC.cond_true (.mk rfl rfl) ?_
    refine WC.skip ?_
    (refine hK _ _ ?_; clear hK)
    refine WC.seq fun K hK => ?_
    refine WC.block ?_
    refine WC.seq fun K hK => ?_
    refine WC.region rfl ?_
    refine wMI rfl rfl rfl rfl rfl ?_
    refine wG rfl rfl (g_indexAddr (sz := 1) rfl (.mk rfl rfl) (.mk rfl rfl) rfl rfl rfl (by omega) (fun _ _ => sl_some hs (by omega))) ?_
    refine wG rfl rfl (g_load rfl (.mk rfl rfl) rfl (rd_sl hs (get1 (by omega)))) ?_
    refine wAI rfl rfl rfl rfl rfl ?_
    refine wAS rfl rfl rfl rfl rfl ?_
    refine WL.nil (hK _ _ ?_); clear hK
    refine WC.seq fun K hK => ?_
    refine WC.region rfl ?_
    refine wMS rfl rfl rfl rfl rfl ?_
    refine wG rfl rfl (g_len rfl (.mk rfl rfl) rfl) ?_
    refine wMI rfl rfl rfl rfl rfl ?_
    refine WL.nil (hK _ _ ?_); clear hK
    refine WC.block ?_
    refine WC.loopI2 (73786958702652163584) (fun (k : Nat) (rs : List Row) => [(44, iv k)]) (fun k rs => [vec Ao r0.length co 99 1 (rs.map Row.v), rowsA rs]) (fun k rs => k ≤ rb.length ∧ rs.length = ra.length ∧ els rs = prg ra.length F z (mrow (els ra) (els rb) (nth rb 0).l.length i k) i) (fun k _ => rb.length - k) 0 rs ⟨rfl, trivial⟩ (.refl _) ⟨by omega, hrl, by rw [hre, mrow_zero, hz]⟩ ?_
    rintro k rs U ⟨hk, hrl, hre⟩
    by_cases hlt2 : k < rb.length
    · have hrbl := hgb.row hlt2
      have hri : (nth rs i).l = mrow (els ra) (els rb) (nth rb 0).l.length i k := by rw [els_row hre (by omega), prg_at hlt]
      have hrll : (nth rs i).l.length = (nth rb 0).l.length := by rw [hri, mrow_len]
      have hgf : gfused (nth rs i).l (nth rb k).l (nth (nth ra i).l k) = mrow (els ra) (els rb) (nth rb 0).l.length i (k + 1) := by
        rw [hri, el_row hlt, ← els_at hlt2]; exact mrow_step (by rw [els_at hlt2]; exact hrbl)
      have hgl : (gfused (nth rs i).l (nth rb k).l (nth (nth ra i).l k)).length = (nth rs i).l.length := gfused_length _ _ _ (by omega)
      refine WC.seq fun K hK => ?_
      refine WC.region rfl ?_
      refine wG rfl rfl (g_lt rfl (.mk rfl rfl) (.mk rfl rfl) (decide_eq_true (by omega))) ?_
      refine WL.nil (hK _ _ ?_); clear hK
      refine WC.seq fun K hK => ?_
      refine WC.cond_true (.mk rfl rfl) ?_
      refine WC.skip ?_
      (refine hK _ _ ?_; clear hK)
      refine WC.seq fun K hK => ?_
      refine WC.block ?_
      refine WC.seq fun K hK => ?_
      refine WC.region rfl ?_
      refine wMI rfl rfl rfl rfl rfl ?_
      refine wG rfl rfl (g_indexAddr (sz := 1) rfl (.mk rfl rfl) (.mk rfl rfl) rfl rfl rfl (by omega) (fun _ _ => sl_some (ha.row (by omega)) (by omega))) ?_
      refine wG rfl rfl (g_load rfl (.mk rfl rfl) rfl (rd_sl (ha.row (by omega)) (get1 (by omega)))) ?_
      refine wAI rfl rfl rfl rfl rfl ?_
      refine wAI rfl rfl rfl rfl rfl ?_
      refine WL.nil (hK _ _ ?_); clear hK
      refine WC.split 0 rfl (by kernel_rfl) (by decide +kernel) ?_
      refine WQ.nil ?_
      refine WY.take 0 rfl (by decide +kernel) (by decide +kernel) (by decide +kernel) rfl rfl (g_move rfl (.mk (v := .slice _ _ _) rfl rfl)) ?_
      refine WY.take 1 rfl (by decide +kernel) (by decide +kernel) (by decide +kernel) rfl rfl (g_move rfl (.mk (v := .int _ _) rfl rfl)) ?_
      refine WY.take 2 rfl (by decide +kernel) (by decide +kernel) (by decide +kernel) rfl rfl (g_move rfl (.mk (v := .slice _ _ _) rfl rfl)) ?_
      refine WY.take 3 rfl (by decide +kernel) (by decide +kernel) (by decide +kernel) rfl rfl (g_move rfl (.mk (v := .int _ _) rfl rfl)) ?_
      refine WY.take 6 rfl (by decide +kernel) (by decide +kernel) (by decide +kernel) rfl rfl (g_move rfl (.mk (v := .slice _ _ _) rfl rfl)) ?_
      refine WY.take 7 rfl (by decide +kernel) (by decide +kernel) (by decide +kernel) rfl rfl (g_move rfl (.mk (v := .int _ _) rfl rfl)) ?_
      refine WY.take 8 rfl (by decide +kernel) (by decide +kernel) (by decide +kernel) rfl rfl (g_indexAddr (sz := 1) rfl (.mk rfl rfl) (.mk rfl rfl) rfl rfl rfl (by omega) (fun _ _ => sl_some hs2 (by omega))) ?_
      refine WY.take 10 rfl (by decide +kernel) (by decide +kernel) (by decide +kernel) rfl rfl (g_move rfl (.mk (v := .int _ _) rfl rfl)) ?_
      refine WY.two 4 9 (by decide +kernel) rfl rfl rfl rfl ?_ ?_
      refine WL1.give rfl (g_indexAddr (sz := 1) rfl (.mk rfl rfl) (.mk rfl rfl) rfl rfl rfl (by omega) (fun w hw => vec_some hw (.head _) (by omega))) ?_
      refine WL.nil ?_
      refine WY.two 5 9 (by decide +kernel) rfl rfl rfl rfl ?_ ?_
      refine WL1.give rfl (g_load rfl (.mk rfl rfl) rfl (rd_vec (.head _) (get1 (by omega)))) ?_
      refine WL.nil ?_
      refine WY.one 9 (by decide +kernel) rfl rfl ?_
      refine WL1.give rfl (g_load rfl (.mk rfl rfl) rfl (rd_sl hs2 (get1 (by omega)))) ?_
      refine WL.nil ?_
      refine WY.one 11 (by decide +kernel) rfl rfl ?_
      (refine WL1.callN rfl rfl rfl (.cons (.mk (v := .slice _ _ _) rfl rfl) (.cons (.mk (v := .slice _ _ _) rfl rfl) (.cons (.mk (v := .int _ _) rfl rfl) .nil))) (fun w hw => fused_n _ _ (nth rs i).l (nth rb k).l (nth (nth ra i).l k) w (Sl.of_rowA hw (by repeat (first | exact .head _ | apply List.Mem.tail)) (by omega)) ((hb.row hlt2).below hw.1) (by omega) (by omega)) ?_; rintro _ _ ⟨Af, cf, rfl, rfl⟩)
      refine WL.nil ?_
      refine WY.take 12 rfl (by decide +kernel) (by decide +kernel) (by decide +kernel) rfl rfl (g_move rfl (.mk (v := .tuple _) rfl rfl)) ?_
      refine WY.take 13 rfl (by decide +kernel) (by decide +kernel) (by decide +kernel) rfl rfl (g_extract rfl (.mk rfl rfl) rfl) ?_
      refine WY.take 14 rfl (by decide +kernel) (by decide +kernel) (by decide +kernel) rfl rfl (g_extract rfl (.mk rfl rfl) rfl) ?_
      refine WY.one 15 (by decide +kernel) rfl rfl ?_
      refine WL1.give rfl (g_indexAddr (sz := 1) rfl (.mk rfl rfl) (.mk rfl rfl) rfl rfl rfl (by omega) (fun w hw => vec_some hw (.tail _ (.head _)) (by omega))) ?_
      refine WL.nil ?_
      refine WY.one 16 (by decide +kernel) rfl rfl ?_
      refine WL1.storeV1 rfl rfl (.mk rfl rfl) (.mk rfl rfl) rfl rfl (by first | omega | (simp; done) | (simp; omega)) (.tail (.head)) ?_
      refine WL.nil ?_
      refine WY.done (by decide +kernel) ?_
      (refine hK _ _ ?_; clear hK)
      refine WC.region rfl ?_
      refine wG rfl rfl (g_add rfl (.mk rfl rfl) (.mk rfl rfl) (IntWalk.i64_in _ (by omega))) ?_
      refine wMI rfl rfl rfl rfl rfl ?_
      refine WL.nil ?_
      rotate_left
      refine WL1.give rfl (g_load rfl (.mk rfl rfl) rfl (rd_sl hs2 (get1 (by omega)))) ?_
      refine WL.nil ?_
      refine WY.one 5 (by decide +kernel) rfl rfl ?_
      refine WL1.give rfl (g_load rfl (.mk rfl rfl) rfl (rd_vec (.head _) (get1 (by omega)))) ?_
      refine WL.nil ?_
      refine WY.one 11 (by decide +kernel) rfl rfl ?_
      (refine WL1.callN rfl rfl rfl (.cons (.mk (v := .slice _ _ _) rfl rfl) (.cons (.mk (v := .slice _ _ _) rfl rfl) (.cons (.mk (v := .int _ _) rfl rfl) .nil))) (fun w hw => fused_n _ _ (nth rs i).l (nth rb k).l (nth (nth ra i).l k) w (Sl.of_rowA hw (by repeat (first | exact .head _ | apply List.Mem.tail)) (by omega)) ((hb.row hlt2).below hw.1) (by omega) (by omega)) ?_; rintro _ _ ⟨Af, cf, rfl, rfl⟩)
      refine WL.nil ?_
      refine WY.take 12 rfl (by decide +kernel) (by decide +kernel) (by decide +kernel) rfl rfl (g_move rfl (.mk (v := .tuple _) rfl rfl)) ?_
      refine WY.take 13 rfl (by decide +kernel) (by decide +kernel) (by decide +kernel) rfl rfl (g_extract rfl (.mk rfl rfl) rfl) ?_
      refine WY.take 14 rfl (by decide +kernel) (by decide +kernel) (by decide +kernel) rfl rfl (g_extract rfl (.mk rfl rfl) rfl) ?_
      refine WY.one 15 (by decide +kernel) rfl rfl ?_
      refine WL1.give rfl (g_indexAddr (sz := 1) rfl (.mk rfl rfl) (.mk rfl rfl) rfl rfl rfl (by omega) (fun w hw => vec_some hw (.tail _ (.head _)) (by omega))) ?_
      refine WL.nil ?_
      refine WY.one 16 (by decide +kernel) rfl rfl ?_
      refine WL1.storeV1 rfl rfl (.mk rfl rfl) (.mk rfl rfl) rfl rfl (by first | omega | (simp; done) | (simp; omega)) (.tail (.head)) ?_
      refine WL.nil ?_
      refine WY.done (by decide +kernel) ?_
      (refine hK _ _ ?_; clear hK)
      refine WC.region rfl ?_
      refine wG rfl rfl (g_add rfl (.mk rfl rfl) (.mk rfl rfl) (IntWalk.i64_in _ (by omega))) ?_
      refine wMI rfl rfl rfl rfl rfl ?_
      refine WL.nil ?_
      rotate_left
      refine WL1.give rfl (g_load rfl (.mk rfl rfl) rfl (rd_sl hs2 (get1 (by omega)))) ?_
      refine WL.nil ?_
      refine WY.one 4 (by decide +kernel) rfl rfl ?_
      refine WL1.give rfl (g_indexAddr (sz := 1) rfl (.mk rfl rfl) (.mk rfl rfl) rfl rfl rfl (by omega) (fun w hw => vec_some hw (.head _) (by omega))) ?_
      refine WL.nil ?_
      refine WY.one 5 (by decide +kernel) rfl rfl ?_
      refine WL1.give rfl (g_load rfl (.mk rfl rfl) rfl (rd_vec (.head _) (get1 (by omega)))) ?_
      refine WL.nil ?_
      refine WY.one 11 (by decide +kernel) rfl rfl ?_
      (refine WL1.callN rfl rfl rfl (.cons (.mk (v := .slice _ _ _) rfl rfl) (.cons (.mk (v := .slice _ _ _) rfl rfl) (.cons (.mk (v := .int _ _) rfl rfl) .nil))) (fun w hw => fused_n _ _ (nth rs i).l (nth rb k).l (nth (nth ra i).l k) w (Sl.of_rowA hw (by repeat (first | exact .head _ | apply List.Mem.tail)) (by omega)) ((hb.row hlt2).below hw.1) (by omega) (by omega)) ?_; rintro _ _ ⟨Af, cf, rfl, rfl⟩)
      refine WL.nil ?_
      refine WY.take 12 rfl (by decide +kernel) (by decide +kernel) (by decide +kernel) rfl rfl (g_move rfl (.mk (v := .tuple _) rfl rfl)) ?_
      refine WY.take 13 rfl (by decide +kernel) (by decide +kernel) (by decide +kernel) rfl rfl (g_extract rfl (.mk rfl rfl) rfl) ?_
      refine WY.take 14 rfl (by decide +kernel) (by decide +kernel) (by decide +kernel) rfl rfl (g_extract rfl (.mk rfl rfl) rfl) ?_
      refine WY.one 15 (by decide +kernel) rfl rfl ?_
      refine WL1.give rfl (g_indexAddr (sz := 1) rfl (.mk rfl rfl) (.mk rfl rfl) rfl rfl rfl (by omega) (fun w hw => vec_some hw (.tail _ (.head _)) (by omega))) ?_
      refine WL.nil ?_
      refine WY.one 16 (by decide +kernel) rfl rfl ?_
      refine WL1.storeV1 rfl rfl (.mk rfl rfl) (.mk rfl rfl) rfl rfl (by first | omega | (simp; done) | (simp; omega)) (.tail (.head)) ?_
      refine WL.nil ?_
      refine WY.done (by decide +kernel) ?_
      (refine hK _ _ ?_; clear hK)
      refine WC.region rfl ?_
      refine wG rfl rfl (g_add rfl (.mk rfl rfl) (.mk rfl rfl) (IntWalk.i64_in _ (by omega))) ?_
      refine wMI rfl rfl rfl rfl rfl ?_
      refine WL.nil ?_
      rotate_left
      all_goals
        refine ⟨k + 1, rs.set i ⟨Af, cf, gfused (nth rs i).l (nth rb k).l (nth (nth ra i).l k)⟩, (by repeat (first | with_reducible exact Out.refl _ _ | refine Out.set rfl ?_ | refine Out.put rfl ?_ | refine Out.sets rfl ?_ | refine Out.hav rfl ?_ | exact Out.refl _ _)), ⟨rfl, trivial⟩, ?_, ⟨by omega, by rw [List.length_set, hrl], by rw [els_set, hre, prg_set hlt, hgf]⟩, by omega⟩
        rw [rowsv_set, Nat.mul_one, v_of hgl, own_of hgl]
        exact Imp.put2 (by repeat (first | exact .head | apply Take.tail)) (by repeat (first | exact .head | apply Swap.tail)) (by omega)
    · obtain rfl : k = rb.length := by omega
      refine WC.seq fun K hK => ?_
      refine WC.region rfl ?_
      refine wG rfl rfl (g_lt rfl (.mk rfl rfl) (.mk rfl rfl) (decide_eq_false (by omega))) ?_
      refine WL.nil (hK _ _ ?_); clear hK
      refine WC.seq fun K hK => ?_
      refine WC.cond_false (.mk rfl rfl) ?_
      refine WC.exit ?_
      (clear hK; refine hK _ _ ?_; clear hK)
      refine WC.region rfl ?_
      refine wG rfl rfl (g_add rfl (.mk rfl rfl) (.mk rfl rfl) (IntWalk.i64_in _ (by omega))) ?_
      refine wMI rfl rfl rfl rfl rfl ?_
      refine WL.nil ?_
      exact ⟨i + 1, rs, (by repeat (first | with_reducible exact Out.refl _ _ | refine Out.set rfl ?_ | refine Out.put rfl ?_ | refine Out.sets rfl ?_ | refine Out.hav rfl ?_ | exact Out.refl _ _)), ⟨rfl, trivial⟩, .refl _, ⟨by omega, hrl, by rw [hre, ← prg_next, hF]⟩, by omega⟩
  · obtain rfl : i = ra.length := by omega
    refine WC.seq fun K hK => ?_
    refine WC.region rfl ?_
    refine wG rfl rfl (g_lt rfl (.mk rfl rfl) (.mk rfl rfl) (decide_eq_false (by omega))) ?_
    refine WL.nil (hK _ _ ?_); clear hK
    refine WC.seq fun K hK => ?_
    refine WC.cond_false (.mk rfl rfl) ?_
    refine WC.exit ?_
    (clear hK; refine hK _ _ ?_; clear hK)
    refine WC.seq fun K hK => ?_
    refine WC.region rfl ?_
    refine wMS rfl rfl rfl rfl rfl ?_
    refine wAS rfl rfl rfl rfl rfl ?_
    refine wAI rfl rfl rfl rfl rfl ?_
    refine WL.nil (hK _ _ ?_); clear hK
    refine WC.ret ?_
    exact fun w' hw' => ⟨_, _, rfl, hw', Ao, co, rs, by show Value.tuple #[.slice Ao r0.length co, iv 0] = _; rw [hrl, hrl0], by rw [matM, hrl, hrl0], by rw [hre, prg_all, hF, mulM, els_len, els_len, els_at (by omega)], hrl⟩
def trM (m : List (List G)) : List (List G) := (List.range (nth m 0).length).map fun k => (List.range m.length).map fun i => el m i k
def trP (m : List (List G)) (n r i k : Nat) : List (List G) := (List.range n).map fun q => (List.range r).map fun p => if p < i ∨ (p = i ∧ q < k) then el m p q else 0
end Go.Proofs.YtdcijljfgcjelaaGreat
namespace Go.Proofs.YtdcijljfgcjelaaGreat
set_option maxRecDepth 20000
def fnd (p : Nat → Bool) : Nat → Option Nat
  | 0 => none
  | n + 1 => match fnd p n with
    | some j => some j
    | none => if p n then some n else none
theorem fnd_none {p : Nat → Bool} : ∀ {n : Nat}, fnd p n = none → ∀ i, i < n → p i = false
  | 0, _, i, hi => absurd hi (by omega)
  | n + 1, h, i, hi => by
    unfold fnd at h
    cases hf : fnd p n with
    | some j => rw [hf] at h; cases h
    | none =>
      rw [hf] at h
      by_cases hp : p n = true
      · simp [hp] at h
      · by_cases e : i = n
        · rw [e]; simpa using hp
        · exact fnd_none hf i (by omega)
theorem fnd_some {p : Nat → Bool} : ∀ {n j : Nat}, fnd p n = some j → j < n ∧ p j = true ∧ ∀ i, i < j → p i = false
  | 0, _, h => by cases h
  | n + 1, j, h => by
    unfold fnd at h
    cases hf : fnd p n with
    | some k =>
      rw [hf] at h
      simp only [Option.some.injEq] at h
      subst h
      obtain ⟨h1, h2, h3⟩ := fnd_some hf
      exact ⟨by omega, h2, h3⟩
    | none =>
      rw [hf] at h
      by_cases hp : p n = true
      · simp only [hp, if_true, Option.some.injEq] at h
        subst h
        exact ⟨by omega, hp, fnd_none hf⟩
      · simp [hp] at h
theorem fnd_eq {p : Nat → Bool} {n j : Nat} (hj : j < n) (hp : p j = true) (h : ∀ i, i < j → p i = false) : fnd p n = some j := by
  cases hf : fnd p n with
  | none => rw [fnd_none hf j hj] at hp; cases hp
  | some k =>
    obtain ⟨h1, h2, h3⟩ := fnd_some hf
    rcases Nat.lt_trichotomy j k with h4 | h4 | h4
    · rw [h3 j h4] at hp; cases hp
    · rw [h4]
    · rw [h k h4] at h2; cases h2
theorem fnd_all {p : Nat → Bool} {n : Nat} (h : ∀ i, i < n → p i = false) : fnd p n = none := by
  cases hf : fnd p n with
  | none => rfl
  | some k =>
    obtain ⟨h1, h2, _⟩ := fnd_some hf
    rw [h k h1] at h2; cases h2
def fz : Option Nat → Int
  | some k => k
  | none => -1
def nz (x : G) : Bool := decide (x ≠ 0)
theorem nz_t {x : G} : nz x = true ↔ x ≠ 0 := by unfold nz; simp
theorem nz_f {x : G} : nz x = false ↔ x = 0 := by unfold nz; simp
def pvt (a : List (List G)) (n c : Nat) : Option Nat := fnd (fun k => nz (el a (c + k) c)) (n - c)
def swp (a : List (List G)) (c q : Nat) : List (List G) := (a.set c (nth a q)).set q (nth a c)
def nrm (a : List (List G)) (w c : Nat) : List (List G) := a.set c (gfused (zrow w) (nth a c) (ginv (el a c c)))
def elm (a : List (List G)) (n c i : Nat) : List (List G) := (List.range n).map fun q => if q < i ∧ q ≠ c then gfused (nth a q) (nth a c) (el a q c) else nth a q
def stp (a : List (List G)) (n c q : Nat) : List (List G) := elm (nrm (swp a c (c + q)) (2 * n) c) n c n
def gjr (n : Nat) : Nat → List (List G) → Option (List (List G))
  | 0, a => some a
  | k + 1, a => match pvt a n (n - (k + 1)) with
    | none => none
    | some q => gjr n k (stp a n (n - (k + 1)) q)
def aug (m : List (List G)) (n : Nat) : List (List G) := (List.range n).map fun i => nth m i ++ (List.range n).map fun j => dlt i j
def invM (m : List (List G)) : Option (List (List G)) := (gjr m.length m.length (aug m m.length)).map fun a => a.map (List.drop m.length)
def Shp (a : List (List G)) (n w : Nat) : Prop := a.length = n ∧ ∀ i, i < n → (nth a i).length = w
section
variable {a : List (List G)} {n w c q i : Nat}
theorem swp_len : (swp a c q).length = a.length := by simp [swp]
theorem swp_row (hc : c < a.length) (hq : q < a.length) (i : Nat) : nth (swp a c q) i = if i = q then nth a c else if i = c then nth a q else nth a i := by
  unfold swp
  rw [nth_put (by simpa using hq), nth_put hc]
theorem swp_shp (h : Shp a n w) (hc : c < n) (hq : q < n) : Shp (swp a c q) n w := by
  refine ⟨by rw [swp_len, h.1], fun i hi => ?_⟩
  rw [swp_row (by rw [h.1]; exact hc) (by rw [h.1]; exact hq)]
  split
  · exact h.2 c hc
  · split
    · exact h.2 q hq
    · exact h.2 i hi
theorem nrm_row (h : Shp a n w) (hc : c < n) (i : Nat) : nth (nrm a w c) i = if i = c then gfused (zrow w) (nth a c) (ginv (el a c c)) else nth a i := by
  unfold nrm
  rw [nth_put (by rw [h.1]; exact hc)]
theorem nrm_shp (h : Shp a n w) (hc : c < n) : Shp (nrm a w c) n w := by
  refine ⟨by unfold nrm; rw [List.length_set, h.1], fun i hi => ?_⟩
  rw [nrm_row h hc]
  split
  · rw [gfused_length _ _ _ (by rw [zrow_len, h.2 c hc]), zrow_len]
  · exact h.2 i hi
theorem elm_len : (elm a n c i).length = n := by simp [elm]
theorem elm_row {q : Nat} (hq : q < n) : nth (elm a n c i) q = if q < i ∧ q ≠ c then gfused (nth a q) (nth a c) (el a q c) else nth a q := nth_range _ hq
theorem elm_shp (h : Shp a n w) (hc : c < n) : Shp (elm a n c i) n w := by
  refine ⟨elm_len, fun q hq => ?_⟩
  rw [elm_row hq]
  split
  · rw [gfused_length _ _ _ (by rw [h.2 q hq, h.2 c hc]), h.2 q hq]
  · exact h.2 q hq
theorem elm_zero (h : a.length = n) : elm a n c 0 = a := list_ext_nth (by rw [elm_len, h]) fun q hq => by
  rw [elm_len] at hq
  rw [elm_row hq, if_neg (by omega)]
theorem elm_skip (h : i = c) : elm a n c i = elm a n c (i + 1) := List.map_congr_left fun q _ => by
  by_cases e : q < i ∧ q ≠ c
  · rw [if_pos e, if_pos (by omega)]
  · rw [if_neg e, if_neg (by omega)]
theorem elm_set (hi : i < n) (hne : i ≠ c) : (elm a n c i).set i (gfused (nth a i) (nth a c) (el a i c)) = elm a n c (i + 1) := list_ext_nth (by rw [List.length_set, elm_len, elm_len]) fun q hq => by
  rw [List.length_set, elm_len] at hq
  rw [nth_put (by rw [elm_len]; exact hi), elm_row hq, elm_row hq]
  by_cases e : q = i
  · subst e; rw [if_pos rfl, if_pos (by omega)]
  · rw [if_neg e]
    by_cases e2 : q < i ∧ q ≠ c
    · rw [if_pos e2, if_pos (by omega)]
    · rw [if_neg e2, if_neg (by omega)]
/-! elements -/
theorem fused_el {d s : List G} {w : Nat} (x : G) (h1 : d.length = w) (h2 : s.length = w) {j : Nat} (hj : j < w) : nth (gfused d s x) j = nth d j + x * nth s j := by rw [gfused_map x h1 h2, nth_range _ hj]
theorem swp_el (h : Shp a n w) (hc : c < n) (hq : q < n) (i j : Nat) : el (swp a c q) i j = if i = q then el a c j else if i = c then el a q j else el a i j := by
  unfold el
  rw [swp_row (by rw [h.1]; exact hc) (by rw [h.1]; exact hq)]
  split
  · rfl
  · split <;> rfl
theorem nrm_el (h : Shp a n w) (hc : c < n) (i : Nat) {j : Nat} (hj : j < w) : el (nrm a w c) i j = if i = c then ginv (el a c c) * el a c j else el a i j := by
  unfold el
  rw [nrm_row h hc]
  split
  · rw [fused_el (w := w) _ (zrow_len _) (h.2 c hc) hj, zrow_nth hj, G.zero_add]; rfl
  · rfl
theorem elm_el (h : Shp a n w) (hc : c < n) {i j : Nat} (hi : i < n) (hj : j < w) : el (elm a n c n) i j = if i = c then el a c j else el a i j + el a i c * el a c j := by
  unfold el
  rw [elm_row hi]
  by_cases e : i = c
  · rw [if_neg (by omega), if_pos e, e]
  · rw [if_pos ⟨hi, e⟩, if_neg e, fused_el (w := w) _ (h.2 i hi) (h.2 c hc) hj]; rfl
end
structure Inv (m a : List (List G)) (n c : Nat) : Prop where
  shp : Shp a n (2 * n)
  fac : ∀ i, i < n → ∀ j, j < n → el a i j = gsum n fun k => el a i (n + k) * el m k j
  ker : ∀ x : Nat → G, (∀ i, i < n → gsum n (fun j => el a i j * x j) = 0) → ∀ i, i < n → gsum n (fun j => el m i j * x j) = 0
  one : ∀ i, i < n → ∀ j, j < c → el a i j = dlt i j
theorem aug_row {m : List (List G)} {n i : Nat} (hi : i < n) : nth (aug m n) i = nth m i ++ (List.range n).map fun j => dlt i j := nth_range _ hi
theorem nth_app {α : Type} [Inhabited α] (a b : List α) (k : Nat) : nth (a ++ b) k = if k < a.length then nth a k else nth b (k - a.length) := by
  unfold nth
  simp only [List.getD_eq_getElem?_getD]
  by_cases h : k < a.length
  · rw [if_pos h, List.getElem?_append_left h]
  · rw [if_neg h, List.getElem?_append_right (by omega)]
theorem aug_inv {m : List (List G)} {n : Nat} (h : Shp m n n) : Inv m (aug m n) n 0 := by
  have e1 : ∀ i, i < n → ∀ j, j < n → el (aug m n) i j = el m i j := fun i hi j hj => by
    unfold el; rw [aug_row hi, nth_app, if_pos (by rw [h.2 i hi]; exact hj)]
  have e2 : ∀ i, i < n → ∀ j, j < n → el (aug m n) i (n + j) = dlt i j := fun i hi j hj => by
    unfold el; rw [aug_row hi, nth_app, if_neg (by rw [h.2 i hi]; omega), h.2 i hi, Nat.add_sub_cancel_left, nth_range _ hj]
  refine ⟨⟨by simp [aug], fun i hi => ?_⟩, fun i hi j hj => ?_, fun x hx i hi => ?_, fun i hi j hj => absurd hj (by omega)⟩
  · rw [aug_row hi, List.length_append, h.2 i hi]; simp; omega
  · rw [e1 i hi j hj]
    have : gsum n (fun k => el (aug m n) i (n + k) * el m k j) = gsum n (fun k => dlt i k * el m k j) := gsum_congr fun k hk => by rw [e2 i hi k hk]
    rw [this, gsum_dlt hi]
  · rw [← hx i hi]; exact gsum_congr fun j hj => by rw [e1 i hi j hj]
theorem swp_inv {m a : List (List G)} {n c q : Nat} (h : Inv m a n c) (hc : c < n) (hq : q < n) (hcq : c ≤ q) : Inv m (swp a c q) n c := by
  have E := fun i j => swp_el h.shp hc hq i j
  refine ⟨swp_shp h.shp hc hq, fun i hi j hj => ?_, fun x hx => h.ker x fun i hi => ?_, fun i hi j hj => ?_⟩
  · rw [E]
    by_cases e : i = q
    · rw [if_pos e, h.fac c hc j hj]; exact gsum_congr fun k _ => by rw [E, if_pos e]
    · by_cases e2 : i = c
      · rw [if_neg e, if_pos e2, h.fac q hq j hj]; exact gsum_congr fun k _ => by rw [E, if_neg e, if_pos e2]
      · rw [if_neg e, if_neg e2, h.fac i hi j hj]; exact gsum_congr fun k _ => by rw [E, if_neg e, if_neg e2]
  · by_cases e2 : i = c
    · have := hx q hq
      rw [e2, ← this]; exact gsum_congr fun k _ => by rw [E, if_pos rfl]
    · by_cases e : i = q
      · have := hx c hc
        rw [e, ← this]
        refine gsum_congr fun k _ => ?_
        rw [E]
        by_cases e3 : c = q
        · rw [if_pos e3, e3]
        · rw [if_neg e3, if_pos rfl]
      · rw [← hx i hi]; exact gsum_congr fun k _ => by rw [E, if_neg e, if_neg e2]
  · rw [E]
    by_cases e : i = q
    · rw [if_pos e, h.one c hc j hj, dlt_ne (by omega), dlt_ne (by omega)]
    · by_cases e2 : i = c
      · rw [if_neg e, if_pos e2, h.one q hq j hj, dlt_ne (by omega), dlt_ne (by omega)]
      · rw [if_neg e, if_neg e2, h.one i hi j hj]
theorem nrm_inv {m a : List (List G)} {n c : Nat} (h : Inv m a n c) (hc : c < n) (hp : el a c c ≠ 0) : Inv m (nrm a (2 * n) c) n c ∧ el (nrm a (2 * n) c) c c = 1 := by
  have E := fun i j (hj : j < 2 * n) => nrm_el h.shp hc i hj
  have hm := mul_ginv hp
  refine ⟨⟨nrm_shp h.shp hc, fun i hi j hj => ?_, fun x hx => h.ker x fun i hi => ?_, fun i hi j hj => ?_⟩, ?_⟩
  · rw [E i j (by omega)]
    by_cases e : i = c
    · rw [if_pos e, h.fac c hc j hj, mul_gsum]; exact gsum_congr fun k hk => by rw [E i (n + k) (by omega), if_pos e, G.mul_assoc]
    · rw [if_neg e, h.fac i hi j hj]; exact gsum_congr fun k hk => by rw [E i (n + k) (by omega), if_neg e]
  · by_cases e : i = c
    · have h1 := hx c hc
      have h2 : gsum n (fun j => el (nrm a (2 * n) c) c j * x j) = ginv (el a c c) * gsum n (fun j => el a c j * x j) := by
        rw [mul_gsum]; exact gsum_congr fun k hk => by rw [E c k (by omega), if_pos rfl, G.mul_assoc]
      rw [h2] at h1
      rcases mul_eq_zero_iff.1 h1 with h3 | h3
      · exact absurd h3 (ginv_ne hp)
      · rw [e]; exact h3
    · rw [← hx i hi]; exact gsum_congr fun k hk => by rw [E i k (by omega), if_neg e]
  · rw [E i j (by omega)]
    by_cases e : i = c
    · rw [if_pos e, h.one c hc j hj, dlt_ne (by omega), G.mul_zero, dlt_ne (by omega)]
    · rw [if_neg e, h.one i hi j hj]
  · rw [E c c (by omega), if_pos rfl, G.mul_comm]; exact hm
theorem elm_inv {m a : List (List G)} {n c : Nat} (h : Inv m a n c) (hc : c < n) (hp : el a c c = 1) : Inv m (elm a n c n) n (c + 1) := by
  have E := fun i j (hi : i < n) (hj : j < 2 * n) => elm_el h.shp hc hi hj
  refine ⟨elm_shp h.shp hc, fun i hi j hj => ?_, fun x hx => h.ker x fun i hi => ?_, fun i hi j hj => ?_⟩
  · rw [E i j hi (by omega)]
    by_cases e : i = c
    · rw [if_pos e, h.fac c hc j hj]; exact gsum_congr fun k hk => by rw [E i (n + k) hi (by omega), if_pos e]
    · rw [if_neg e, h.fac i hi j hj, h.fac c hc j hj, mul_gsum, ← gsum_add]; exact gsum_congr fun k hk => by rw [E i (n + k) hi (by omega), if_neg e, G.add_mul, G.mul_assoc]
  · have h1 : gsum n (fun j => el a c j * x j) = 0 := by
      rw [← hx c hc]; exact gsum_congr fun k hk => by rw [E c k hc (by omega), if_pos rfl]
    by_cases e : i = c
    · rw [e]; exact h1
    · have h2 := hx i hi
      have h3 : gsum n (fun j => el (elm a n c n) i j * x j) = gsum n (fun j => el a i j * x j) + el a i c * gsum n (fun j => el a c j * x j) := by
        rw [mul_gsum, ← gsum_add]; exact gsum_congr fun k hk => by rw [E i k hi (by omega), if_neg e, G.add_mul, G.mul_assoc]
      rw [h3, h1, G.mul_zero, G.add_zero] at h2
      exact h2
  · rw [E i j hi (by omega)]
    by_cases ej : j = c
    · subst ej
      by_cases e : i = j
      · rw [if_pos e, hp, e, dlt_self]
      · rw [if_neg e, hp, G.mul_one, G.add_self, dlt_ne e]
    · have hj' : j < c := by omega
      by_cases e : i = c
      · rw [if_pos e, h.one c hc j hj', e]
      · rw [if_neg e, h.one c hc j hj', dlt_ne (by omega), G.mul_zero, G.add_zero, h.one i hi j hj']
theorem stp_inv {m a : List (List G)} {n c q : Nat} (h : Inv m a n c) (hc : c < n) (hq : pvt a n c = some q) : c + q < n ∧ Inv m (stp a n c q) n (c + 1) := by
  obtain ⟨h1, h2, _⟩ := fnd_some hq
  have hlt : c + q < n := by omega
  refine ⟨hlt, ?_⟩
  have hs := swp_inv h hc hlt (by omega)
  have hp : el (swp a c (c + q)) c c ≠ 0 := by
    rw [swp_el h.shp hc hlt]
    have h3 := nz_t.1 h2
    by_cases e : c = c + q
    · rw [if_pos e]; rw [← e] at h3; exact h3
    · rw [if_neg e, if_pos rfl]; exact h3
  obtain ⟨hn, hn1⟩ := nrm_inv hs hc hp
  exact elm_inv hn hc hn1
theorem pvt_none {m a : List (List G)} {n c : Nat} (h : Inv m a n c) (hc : c < n) (hq : pvt a n c = none) : ∃ x : Nat → G, (∃ k, k < n ∧ x k ≠ 0) ∧ ∀ i, i < n → gsum n (fun j => el m i j * x j) = 0 := by
  have h0 : ∀ i, i < n → c ≤ i → el a i c = 0 := fun i hi hci => by
    have := fnd_none hq (i - c) (by omega)
    rw [show c + (i - c) = i from by omega] at this
    exact nz_f.1 this
  refine ⟨fun k => if k = c then 1 else if k < c then el a k c else 0, ⟨c, hc, by show (if c = c then (1 : G) else _) ≠ 0; rw [if_pos rfl]; exact one_ne_zero⟩, h.ker _ fun i hi => ?_⟩
  rw [gsum_take hc]
  show el a i c * (if c = c then 1 else _) + _ = 0
  rw [if_pos rfl, G.mul_one]
  by_cases hic : i < c
  · rw [gsum_one hi (a := i), if_neg (by omega)]
    · show el a i c + el a i i * (if i = c then 1 else if i < c then el a i c else 0) = 0
      rw [if_neg (by omega), if_pos hic, h.one i hi i hic, dlt_self, G.one_mul, G.add_self]
    · intro k hk hki
      by_cases e : k = c
      · rw [if_pos e]
      · rw [if_neg e]
        show el a i k * (if k = c then 1 else if k < c then el a k c else 0) = 0
        rw [if_neg e]
        by_cases e2 : k < c
        · rw [if_pos e2, h.one i hi k e2, dlt_ne (fun h => hki h.symm), G.zero_mul]
        · rw [if_neg e2, G.mul_zero]
  · rw [h0 i hi (by omega), G.zero_add]
    refine gsum_zero fun k hk => ?_
    by_cases e : k = c
    · rw [if_pos e]
    · rw [if_neg e]
      show el a i k * (if k = c then 1 else if k < c then el a k c else 0) = 0
      rw [if_neg e]
      by_cases e2 : k < c
      · rw [if_pos e2, h.one i hi k e2, dlt_ne (by omega), G.zero_mul]
      · rw [if_neg e2, G.mul_zero]
theorem gjr_some {m : List (List G)} {n : Nat} : ∀ {k : Nat} {a b : List (List G)}, k ≤ n → Inv m a n (n - k) → gjr n k a = some b → Inv m b n n
  | 0, a, b, _, h, e => by
    simp only [gjr, Option.some.injEq] at e
    subst e; exact h
  | k + 1, a, b, hk, h, e => by
    simp only [gjr] at e
    cases hp : pvt a n (n - (k + 1)) with
    | none => rw [hp] at e; cases e
    | some q =>
      rw [hp] at e
      have := (stp_inv h (by omega) hp).2
      rw [show n - (k + 1) + 1 = n - k from by omega] at this
      exact gjr_some (by omega) this e
theorem gjr_none {m : List (List G)} {n : Nat} : ∀ {k : Nat} {a : List (List G)}, k ≤ n → Inv m a n (n - k) → gjr n k a = none → ∃ x : Nat → G, (∃ k, k < n ∧ x k ≠ 0) ∧ ∀ i, i < n → gsum n (fun j => el m i j * x j) = 0
  | 0, a, _, _, e => by cases e
  | k + 1, a, hk, h, e => by
    simp only [gjr] at e
    cases hp : pvt a n (n - (k + 1)) with
    | none => exact pvt_none h (by omega) hp
    | some q =>
      rw [hp] at e
      have := (stp_inv h (by omega) hp).2
      rw [show n - (k + 1) + 1 = n - k from by omega] at this
      exact gjr_none (by omega) this e
theorem drop_nth {l : List G} {n k : Nat} : nth (l.drop n) k = nth l (n + k) := by unfold nth; simp [List.getD_eq_getElem?_getD, List.getElem?_drop]
theorem drops_el {a : List (List G)} {n : Nat} {i : Nat} (hi : i < a.length) (j : Nat) : el (a.map (List.drop n)) i j = el a i (n + j) := by
  unfold el; rw [nth_map _ hi, drop_nth]
theorem invM_some {m v : List (List G)} {n : Nat} (h : Shp m n n) (e : invM m = some v) : Shp v n n ∧ (∀ i, i < n → ∀ j, j < n → gsum n (fun k => el v i k * el m k j) = dlt i j) ∧ (∀ i, i < n → ∀ j, j < n → gsum n (fun k => el m i k * el v k j) = dlt i j) := by
  unfold invM at e
  rw [h.1] at e
  cases hg : gjr n n (aug m n) with
  | none => rw [hg] at e; cases e
  | some a =>
    rw [hg] at e
    simp only [Option.map_some, Option.some.injEq] at e
    have hi := gjr_some (Nat.le_refl n) (by rw [Nat.sub_self]; exact aug_inv h) hg
    have hs : Shp v n n := by
      subst e
      refine ⟨by rw [List.length_map, hi.shp.1], fun i hin => ?_⟩
      rw [nth_map _ (by rw [hi.shp.1]; exact hin), List.length_drop, hi.shp.2 i hin]; omega
    have hl : ∀ i, i < n → ∀ j, j < n → gsum n (fun k => el v i k * el m k j) = dlt i j := fun i hin j hj => by
      rw [← hi.one i hin j hj, hi.fac i hin j hj]
      subst e
      exact gsum_congr fun k _ => by rw [drops_el (by rw [hi.shp.1]; exact hin)]
    exact ⟨hs, hl, inv_two hl⟩
theorem invM_none {m : List (List G)} {n : Nat} (h : Shp m n n) (e : invM m = none) : ∃ x : Nat → G, (∃ k, k < n ∧ x k ≠ 0) ∧ ∀ i, i < n → gsum n (fun j => el m i j * x j) = 0 := by
  unfold invM at e
  rw [h.1] at e
  cases hg : gjr n n (aug m n) with
  | some a => rw [hg] at e; cases e
  | none => exact gjr_none (Nat.le_refl n) (by rw [Nat.sub_self]; exact aug_inv h) hg
end Go.Proofs.YtdcijljfgcjelaaGreat
namespace Go.Proofs.YtdcijljfgcjelaaGreat
set_option maxRecDepth 20000
open Go.RowKit
theorem gpow_half (x : G) (k : Nat) : gpow x k = (if k % 2 = 1 then x else 1) * gpow (x * x) (k / 2) := by
  rw [gpow_sq]
  split
  · conv => lhs; rw [show k = 1 + 2 * (k / 2) from by omega, gpow_add, gpow_one]
  · rw [G.one_mul]; congr 1; omega
set_option maxHeartbeats 400000 in
theorem power_any (a : G) (n : Int) (h1 : 0 ≤ n) (h2 : n ≤ 9223372036854775807) (w : World) :
    Calls Tryz.prog 123 #[bv a, iv n] w fun e w' => e = .returned (bv (gpow a n.toNat)) ∧ w = w' := by
  go_enter Tryz.func123, Tryz.ntmps123
  go_wp2
  go_loop [0, 1, 5] (fun a1 e1 o1 => ∃ (x o : G) (k : Nat), k ≤ 9223372036854775807 ∧ o * gpow x k = gpow a n.toNat ∧ a1 = bv x ∧ e1 = iv k ∧ o1 = bv o) (fun _ e1 _ => (intOf e1).toNat)
  case atStart => exact ⟨a, 1, n.toNat, by omega, G.one_mul _, rfl, by go_num, rfl⟩
  case round =>
    obtain ⟨x, o, k, hk, hx, rfl, rfl, rfl⟩ := hrel
    have HX := Lib.hid hx
    clear hx
    by_cases h0 : k = 0
    · subst h0
      go_wp2
      go_ret
      have := HX.out
      rw [gpow_zero, G.mul_one] at this
      exact ⟨by rw [← this]; rfl, rfl⟩
    · have e2 := i64_low k (by omega)
      by_cases hp : k % 2 = 1
      · have e1 : (bits BinOp.and IntKind.i64 (k : Int) 1 == 1) = true := by rw [e2, hp]; rfl
        clear e2
        go_wp2_with (go_at_call 93; refine (mul_any _ _ _).mono ?_; rintro e w' ⟨rfl, rfl⟩)
        go_round
        case rel => exact ⟨x * x, o * x, k / 2, by omega, by rw [← HX.out, gpow_half x k, if_pos hp, G.mul_assoc], rfl, by go_num, rfl⟩
        case measure => simp [intOf]; omega
      · have e1 : (bits BinOp.and IntKind.i64 (k : Int) 1 == 1) = false := by rw [e2, show k % 2 = 0 from by omega]; rfl
        clear e2
        go_wp2_with (go_at_call 93; refine (mul_any _ _ _).mono ?_; rintro e w' ⟨rfl, rfl⟩)
        go_round
        case rel => exact ⟨x * x, o, k / 2, by omega, by rw [← HX.out, gpow_half x k, if_neg hp, G.one_mul], rfl, by go_num, rfl⟩
        case measure => simp [intOf]; omega
end Go.Proofs.YtdcijljfgcjelaaGreat
namespace Go.Proofs.YtdcijljfgcjelaaGreat
set_option maxRecDepth 20000
open Go.RowKit
def errDivide : Int := 3
theorem G.beq_zero {a : G} (h : a ≠ 0) : ((a.val : Int) == 0) = false := by
  have : a.val ≠ 0 := fun e => h (G.eq_of e)
  rw [beq_eq_false_iff_ne]; omega
set_option maxHeartbeats 400000 in
theorem inv_any (a : G) (h : a ≠ 0) (w : World) :
    Calls Tryz.prog 140 #[bv a] w fun e w' => e = .returned (.tuple #[bv (ginv a), iv 0]) ∧ w = w' := by
  have hb := G.beq_zero h
  go_enter Tryz.func140, Tryz.ntmps140
  go_wp2_with (go_at_call 123; refine (power_any _ _ (by omega) (by omega) _).mono ?_; rintro e w' ⟨rfl, rfl⟩)
  go_ret2
  exact ⟨rfl, rfl⟩
end Go.Proofs.YtdcijljfgcjelaaGreat
namespace Go.Proofs.YtdcijljfgcjelaaGreat
set_option maxRecDepth 20000
open Go.RowKit
attribute [local irreducible] Calls
set_option maxHeartbeats 1000000 in
theorem cloneb_n (v : Value) (l : List G) (w : World) (hv : Sl w 1 v l.length (bvs l)) (h1 : 1 ≤ l.length) (h2 : l.length ≤ 100000) : Calls Tryz.prog 142 #[v] w fun e w' => ∃ v' M, e = .returned v' ∧ H w M w' ∧
    ∃ A c, v' = .slice A l.length c ∧ M = [vec A l.length c 5 1 (bvs l)] := by
  obtain ⟨A, c, rfl, hc, hm, hs⟩ := hv.open_
  have hA := sl_some hs (by omega)
  have hone := bvs_one l
  refine calls_wc (args := [.slice A l.length c]) [2] [] Tryz.func142 rfl Tryz.ntmps142 rfl rfl rfl rfl (H.refl w) ?_
  refine WC.seq fun K hK => ?_
  refine WC.region rfl ?_
  refine wAS rfl rfl rfl rfl rfl ?_
  refine WL.nil (hK _ _ ?_); clear hK
  refine WC.seq fun K hK => ?_
  refine WC.seq fun K hK => ?_
  refine WC.region rfl ?_
  refine wMS rfl rfl rfl rfl rfl ?_
  refine wG rfl rfl (g_eqSNS rfl rfl (.mk rfl rfl) (.mk rfl rfl) ((fun _ _ => sl_some hs (by omega)))) ?_
  refine WL.nil (hK _ _ ?_); clear hK
  refine WC.cond_false (.mk rfl rfl) ?_
  refine WC.skip ?_
  (refine hK _ _ ?_; clear hK)
  refine WC.seq fun K hK => ?_
  refine WC.region rfl ?_
  refine WL.want rfl (WL1.lit (cs := []) elB rfl rfl rfl .nil rfl (by first | (simp [Value.cells]; done) | fail) rfl rfl (fun b5 => ?_))
  refine wMS rfl rfl rfl rfl rfl ?_
  refine WL.want rfl (WL1.append elB rfl rfl (.mk rfl rfl) (.mk rfl rfl) (.head) (fun w hw => Sl.below hs hw.1) hone (by unfold maxLen; omega) (by omega) (fun A7 c7 => ?_))
  refine wAS rfl rfl rfl rfl rfl ?_
  refine WL.nil (hK _ _ ?_); clear hK
  refine WC.ret ?_
  exact fun w' hw' => ⟨_, _, rfl, hw', A7, c7, by show Value.slice A7 (0 + l.length) c7 = _; rw [Nat.zero_add], by rw [Nat.zero_add, List.nil_append]⟩
abbrev colF (b : Nat) : Value := .func (.func 139) #[] #[cellPtr (some ⟨b, 0, none⟩) 0]
theorem decG {x : G} : decide (((x.val : Nat) : Int) ≠ 0) = nz x := by
  unfold nz
  refine decide_eq_decide.2 ⟨fun h e => h (by rw [e]; rfl), fun h e => h (G.eq_of (by show x.val = 0; omega))⟩
set_option maxHeartbeats 1000000 in
theorem colF_e (v : Value) (l : List G) (b c : Nat) (w : World) (hv : Sl w 1 v l.length (bvs l)) (hc : w.cell? ⟨b, 0, none⟩ = some (iv c)) (h : c < l.length) : Calls Tryz.prog 139 #[v, cellPtr (some ⟨b, 0, none⟩) 0] w fun e w' => e = .returned (.bool (nz (nth l c))) ∧ Below w.heap.size w w' := by
  obtain ⟨A, cc, rfl, hcc, hm, hs⟩ := hv.open_
  have hd := decG (x := nth l c)
  refine calls_wc (args := [.slice A l.length cc, cellPtr (some ⟨b, 0, none⟩) 0]) [3] [] Tryz.func139 rfl Tryz.ntmps139 rfl rfl rfl rfl (H.refl w) ?_
  refine WC.seq fun K hK => ?_
  refine WC.region rfl ?_
  refine wAB rfl rfl rfl rfl rfl ?_
  refine WL.nil (hK _ _ ?_); clear hK
  refine WC.seq fun K hK => ?_
  refine WC.region rfl ?_
  refine wMS rfl rfl rfl rfl rfl ?_
  refine wG rfl rfl (g_load rfl (.mk rfl rfl) rfl (rd_wb hc)) ?_
  refine wG rfl rfl (g_indexAddr (sz := 1) rfl (.mk rfl rfl) (.mk rfl rfl) rfl rfl rfl (by omega) (fun _ _ => sl_some hs (by omega))) ?_
  refine wG rfl rfl (g_load rfl (.mk rfl rfl) rfl (rd_sl hs (get1 (by omega)))) ?_
  refine wG rfl rfl (g_ne rfl (.mk rfl rfl) (.mk rfl rfl) hd) ?_
  refine wAB rfl rfl rfl rfl rfl ?_
  refine WL.nil (hK _ _ ?_); clear hK
  refine WC.ret ?_
  exact fun w' hw' => ⟨rfl, hw'.1⟩
set_option maxHeartbeats 1000000 in
theorem index_rows (v : Value) (rs : List Row) (b c : Nat) (w : World) (hv : MatAt w v rs) (hc : w.cell? ⟨b, 0, none⟩ = some (iv c)) (hl : ∀ k, k < rs.length → c < (nth rs k).l.length) :
    Calls Tryz.prog 138 #[v, colF b] w fun e w' => e = .returned (iv (fz (fnd (fun k => nz (nth (nth rs k).l c)) rs.length))) ∧ Below w.heap.size w w' := by
  obtain ⟨A, cc, rfl, hcc, hm, hs⟩ := hv.1.open_
  unfold maxLen at hm
  refine calls_wc (args := [.slice A rs.length cc, colF b]) [4] [] Tryz.func138 rfl Tryz.ntmps138 rfl rfl rfl rfl (H.refl w) ?_
  refine WC.seq fun K hK => ?_
  refine WC.region rfl ?_
  refine wAI rfl rfl rfl rfl rfl ?_
  refine WL.nil (hK _ _ ?_); clear hK
  refine WC.seq fun K hK => ?_
  refine WC.seq fun K hK => ?_
  refine WC.region rfl ?_
  refine wMS rfl rfl rfl rfl rfl ?_
  refine wG rfl rfl (g_len rfl (.mk rfl rfl) rfl) ?_
  refine wMI rfl rfl rfl rfl rfl ?_
  refine WL.nil (hK _ _ ?_); clear hK
  refine WC.block ?_
  refine WC.loop (524080) (fun k : Nat => [(8, iv k)]) (fun _ => []) (fun k => k ≤ rs.length ∧ ∀ j, j < k → nz (nth (nth rs j).l c) = false) (fun k => rs.length - k) 0 ⟨rfl, trivial⟩ (List.nil_sublist _) ⟨by omega, fun j hj => absurd hj (by omega)⟩ ?_
  rintro k U ⟨hk, hq⟩
  by_cases hlt : k < rs.length
  · have hcl := fun w' hb => colF_e (nth rs k).v (nth rs k).l b c w' ((hv.row hlt).below (w' := w') hb) (kept_cell hb hc) (hl k hlt)
    cases hz : nz (nth (nth rs k).l c) with
    | false =>
      rw [hz] at hcl
      refine WC.seq fun K hK => ?_
      refine WC.region rfl ?_
      refine wG rfl rfl (g_lt rfl (.mk rfl rfl) (.mk rfl rfl) (decide_eq_true (by omega))) ?_
      refine WL.nil (hK _ _ ?_); clear hK
      refine WC.seq fun K hK => ?_
      refine WC.cond_true (.mk rfl rfl) ?_
      refine WC.skip ?_
      (refine hK _ _ ?_; clear hK)
      refine WC.seq fun K hK => ?_
      refine WC.block ?_
      refine WC.seq fun K hK => ?_
      refine WC.region rfl ?_
      refine wMI rfl rfl rfl rfl rfl ?_
      refine wAI rfl rfl rfl rfl rfl ?_
      refine WL.nil (hK _ _ ?_); clear hK
      refine WC.seq fun K hK => ?_
      refine WC.region rfl ?_
      refine wG rfl rfl (g_move rfl (.mk (v := .func _ _ _) rfl rfl)) ?_
      refine wMS rfl rfl rfl rfl rfl ?_
      refine wMI rfl rfl rfl rfl rfl ?_
      refine wG rfl rfl (g_indexAddr (sz := 1) rfl (.mk rfl rfl) (.mk rfl rfl) rfl rfl rfl (by omega) (fun _ _ => sl_some hs (by omega))) ?_
      refine wG rfl rfl (g_load rfl (.mk rfl rfl) rfl (rd_sl hs (get1 (by omega)))) ?_
      refine WL.want rfl (WL1.callVP rfl rfl (.mk rfl rfl) (by first | assumption | rfl) (.cons (.mk (v := .slice _ _ _) rfl rfl) .nil) (fun w hw => hcl w hw.1) ?_)
      refine WL.nil (hK _ _ ?_); clear hK
      refine WC.cond_false (.mk rfl rfl) ?_
      refine WC.skip ?_
      (refine hK _ _ ?_; clear hK)
      refine WC.region rfl ?_
      refine wG rfl rfl (g_add rfl (.mk rfl rfl) (.mk rfl rfl) (IntWalk.i64_in _ (by omega))) ?_
      refine wMI rfl rfl rfl rfl rfl ?_
      refine WL.nil ?_
      refine ⟨k + 1, (by repeat (first | with_reducible exact Out.refl _ _ | refine Out.set rfl ?_ | refine Out.put rfl ?_ | refine Out.sets rfl ?_ | refine Out.hav rfl ?_ | exact Out.refl _ _)), ⟨rfl, trivial⟩, .refl _, ⟨by omega, fun j hj => ?_⟩, by omega⟩
      by_cases e : j = k
      · rw [e]; exact hz
      · exact hq j (by omega)
    | true =>
      rw [hz] at hcl
      refine WC.seq fun K hK => ?_
      refine WC.region rfl ?_
      refine wG rfl rfl (g_lt rfl (.mk rfl rfl) (.mk rfl rfl) (decide_eq_true (by omega))) ?_
      refine WL.nil (hK _ _ ?_); clear hK
      refine WC.seq fun K hK => ?_
      refine WC.cond_true (.mk rfl rfl) ?_
      refine WC.skip ?_
      (refine hK _ _ ?_; clear hK)
      refine WC.seq fun K hK => ?_
      refine WC.block ?_
      refine WC.seq fun K hK => ?_
      refine WC.region rfl ?_
      refine wMI rfl rfl rfl rfl rfl ?_
      refine wAI rfl rfl rfl rfl rfl ?_
      refine WL.nil (hK _ _ ?_); clear hK
      refine WC.seq fun K hK => ?_
      refine WC.region rfl ?_
      refine wG rfl rfl (g_move rfl (.mk (v := .func _ _ _) rfl rfl)) ?_
      refine wMS rfl rfl rfl rfl rfl ?_
      refine wMI rfl rfl rfl rfl rfl ?_
      refine wG rfl rfl (g_indexAddr (sz := 1) rfl (.mk rfl rfl) (.mk rfl rfl) rfl rfl rfl (by omega) (fun _ _ => sl_some hs (by omega))) ?_
      refine wG rfl rfl (g_load rfl (.mk rfl rfl) rfl (rd_sl hs (get1 (by omega)))) ?_
      refine WL.want rfl (WL1.callVP rfl rfl (.mk rfl rfl) (by first | assumption | rfl) (.cons (.mk (v := .slice _ _ _) rfl rfl) .nil) (fun w hw => hcl w hw.1) ?_)
      refine WL.nil (hK _ _ ?_); clear hK
      refine WC.cond_true (.mk rfl rfl) ?_
      refine WC.seq fun K hK => ?_
      refine WC.region rfl ?_
      refine wMI rfl rfl rfl rfl rfl ?_
      refine wAI rfl rfl rfl rfl rfl ?_
      refine WL.nil (hK _ _ ?_); clear hK
      refine WC.ret ?_
      exact fun w' hw' => ⟨by rw [fnd_eq hlt hz hq]; rfl, hw'.1⟩
  · obtain rfl : k = rs.length := by omega
    refine WC.seq fun K hK => ?_
    refine WC.region rfl ?_
    refine wG rfl rfl (g_lt rfl (.mk rfl rfl) (.mk rfl rfl) (decide_eq_false (by omega))) ?_
    refine WL.nil (hK _ _ ?_); clear hK
    refine WC.seq fun K hK => ?_
    refine WC.cond_false (.mk rfl rfl) ?_
    refine WC.exit ?_
    (clear hK; refine hK _ _ ?_; clear hK)
    refine WC.seq fun K hK => ?_
    refine WC.region rfl ?_
    refine wAI rfl rfl rfl rfl rfl ?_
    refine WL.nil (hK _ _ ?_); clear hK
    refine WC.ret ?_
    exact fun w' hw' => ⟨by rw [fnd_all hq]; rfl, hw'.1⟩
end Go.Proofs.YtdcijljfgcjelaaGreat
