/- The program logic: open regions in which some assertions hold until a barrier comes up: all reads that the barriers wait for come first. Over any program. No condition. -/
import Derived.Test.YtbofagfilohhfaaEng12
namespace Go.Proofs.Ytbofagfilohhfaa
set_option maxRecDepth 20000
open Go.RowKit
section
variable {P : Program} {ops : Array Oper} {Q : Exit → Act → World → Prop} {S : World → Prop} {bars : List Nat}
/-- Has a barrier come up? -/
def barred (bars : List Nat) (s : Array Bool) : Bool := bars.any fun b => s.getD b false
/-- Whatever comes up; S holds until a barrier has come up. -/
def wpUntil (P : Program) (ops : Array Oper) (Q : Exit → Act → World → Prop) (S : World → Prop) (bars : List Nat) : Nat → Array Bool → Act → World → Prop
  | 0, s, a, w => Region.ready .any ops s = [] ∧ Q .normal a w
  | k + 1, s, a, w => (Region.ready .any ops s = [] → Q .normal a w) ∧ ∀ i ∈ Region.ready .any ops s, wpOp P ops Q i (fun a' w' => (barred bars (s.setIfInBounds i true) = true ∨ S w') ∧ wpUntil P ops Q S bars k (s.setIfInBounds i true) a' w') a w
theorem wpUntil.any : ∀ {k : Nat} {s : Array Bool} {a : Act} {w : World}, wpUntil P ops Q S bars k s a w → wpAny P .any ops Q k s a w
  | 0, _, _, _, h => h
  | _ + 1, _, _, _, h => ⟨h.1, fun i hi => wpOp_mono (fun _ _ h2 => h2.2.any) (h.2 i hi)⟩
/-- Operation j directly waits for operation i. -/
def directB (ops : Array Oper) (j i : Nat) : Bool := match ops[j]? with | some o => o.after.any fun e => Region.binds .any e && e.on == i | none => false
theorem not_waits {s : Array Bool} {i j : Nat} (hi : i ∈ Region.ready .any ops s) (hj : j ∈ Region.ready .any ops s) : ∀ oj, ops[j]? = some oj → ∀ e ∈ oj.after, Region.binds .any e = true → e.on ≠ i := by
  intro oj hoj e he hb heq
  obtain ⟨_, o, ho, hall⟩ := mem_ready.1 hj
  obtain rfl : o = oj := Option.some.inj (ho.symm.trans hoj)
  have h1 := hall e he hb
  rw [heq, getD_both (mem_ready.1 hi).1] at h1
  cases h1
theorem not_bar {s : Array Bool} {i j : Nat} (hi : i ∈ Region.ready .any ops s) (hj : j ∈ Region.ready .any ops s) (hd : directB ops j i = true) : False := by
  obtain ⟨_, o, ho, _⟩ := mem_ready.1 hj
  unfold directB at hd
  rw [ho] at hd
  obtain ⟨e, he, h2⟩ := Array.any_eq_true'.1 hd
  simp only [Bool.and_eq_true, beq_iff_eq] at h2
  exact not_waits hi hj o ho e he h2.1 h2.2
/-- A read comes first. -/
theorem wpUntil.first {i : Nat} {o : Oper} {v : Value} (ho : ops[i]? = some o) (hsel : ∀ (j : Nat) (o : Oper) cs b, ops[j]? = some o → o.op ≠ .select cs b) (hQ : ∀ c a w, Q (.panic c) (a.put o.dst v) w → Q (.panic c) a w) :
    ∀ (k : Nat) (s : Array Bool) (a : Act) (w : World), (∀ j oj, ops[j]? = some oj → j ≠ i → s.getD j true = false → (∀ e ∈ oj.after, Region.binds .any e = true → e.on ≠ i) → o.apart ops oj = true) →
      (∀ b ∈ bars, s.getD b false = false ∧ directB ops b i = true) → i ∈ Region.ready .any ops s → YieldsIf P ops S o v a → S w →
      wpUntil P ops Q S bars k (s.setIfInBounds i true) (a.put o.dst v) w → wpUntil P ops Q S bars (k + 1) s a w := by
  intro k
  induction k with
  | zero =>
    intro s a w _ _ hr hy hS h
    refine ⟨fun h0 => absurd (h0 ▸ hr) (by simp), fun j hj => ?_⟩
    by_cases hji : j = i
    · subst hji; exact hy.wpOp ho hS ⟨.inr hS, h⟩
    · have := ready_mono hj hji
      rw [h.1] at this; cases this
  | succ k ih =>
    intro s a w hfree hbar hr hy hS h
    refine ⟨fun h0 => absurd (h0 ▸ hr) (by simp), fun j hj => ?_⟩
    by_cases hji : j = i
    · subst hji; exact hy.wpOp ho hS ⟨.inr hS, h⟩
    · obtain ⟨hjun, oj, hoj, _⟩ := mem_ready.1 hj
      have hap := hfree j oj hoj hji hjun (not_waits hr hj oj hoj)
      have h2 := wpOp_putIf hoj hap (fun cs b => hsel i o cs b ho) (fun cs b => hsel j oj cs b hoj) hQ hy (h.2 j (ready_mono hj hji))
      refine wpOp_mono ?_ h2
      rintro a' w' ⟨hy', hS', h'⟩
      have hSw : S w' := by
        rcases hS' with hb | hS'
        · obtain ⟨b, hb, hl⟩ := List.any_eq_true.1 hb
          obtain ⟨h3, h4⟩ := hbar b hb
          by_cases e : j = b
          · subst e; exact (not_bar hr hj h4).elim
          · by_cases e2 : i = b
            · subst e2; exact (not_bar hr hr h4).elim
            · rw [getD_set_ne false e, getD_set_ne false e2, h3] at hl; cases hl
        · exact hS'
      refine ⟨.inr hSw, ih (s.setIfInBounds j true) a' w' (fun q oq hq hqi hun hno => hfree q oq hq hqi ?_ hno) (fun b hb => ⟨?_, (hbar b hb).2⟩) (ready_mono hr fun e => hji e.symm) hy' hSw ?_⟩
      · by_cases hjq : j = q
        · subst hjq; exact hjun
        · rwa [getD_set_ne true hjq] at hun
      · by_cases e : j = b
        · subst e; exact (not_bar hr hj (hbar j hb).2).elim
        · rw [getD_set_ne false e]; exact (hbar b hb).1
      · rw [Array.setIfInBounds_comm _ _ hji]; exact h'
/-- What yields in whatever world comes first. -/
theorem wpUntil.firstP {i : Nat} {o : Oper} {v : Value} (ho : ops[i]? = some o) (hsel : ∀ (j : Nat) (o : Oper) cs b, ops[j]? = some o → o.op ≠ .select cs b) (hQ : ∀ c a w, Q (.panic c) (a.put o.dst v) w → Q (.panic c) a w) :
    ∀ (k : Nat) (s : Array Bool) (a : Act) (w : World), (∀ j oj, ops[j]? = some oj → j ≠ i → s.getD j true = false → (∀ e ∈ oj.after, Region.binds .any e = true → e.on ≠ i) → o.apart ops oj = true) →
      i ∉ bars → i ∈ Region.ready .any ops s → YieldsIf P ops (fun _ => True) o v a → (barred bars s = true ∨ S w) →
      wpUntil P ops Q S bars k (s.setIfInBounds i true) (a.put o.dst v) w → wpUntil P ops Q S bars (k + 1) s a w := by
  have grow : ∀ (s : Array Bool) (j : Nat), barred bars s = true → barred bars (s.setIfInBounds j true) = true := fun s j h => by
    obtain ⟨b, hb, hl⟩ := List.any_eq_true.1 h
    refine List.any_eq_true.2 ⟨b, hb, ?_⟩
    by_cases e : j = b
    · subst e
      have hlt : j < s.size := by
        rcases Nat.lt_or_ge j s.size with h | h
        · exact h
        · simp [Array.getD_eq_getD_getElem?, Array.getElem?_eq_none h] at hl
      simp [Array.getD_eq_getD_getElem?, hlt]
    · rw [getD_set_ne false e]; exact hl
  intro k
  induction k with
  | zero =>
    intro s a w _ hib hr hy hS h
    refine ⟨fun h0 => absurd (h0 ▸ hr) (by simp), fun j hj => ?_⟩
    by_cases hji : j = i
    · subst hji; exact hy.wpOp ho trivial ⟨hS.imp (grow s _) id, h⟩
    · have := ready_mono hj hji
      rw [h.1] at this; cases this
  | succ k ih =>
    intro s a w hfree hib hr hy hS h
    refine ⟨fun h0 => absurd (h0 ▸ hr) (by simp), fun j hj => ?_⟩
    by_cases hji : j = i
    · subst hji; exact hy.wpOp ho trivial ⟨hS.imp (grow s _) id, h⟩
    · obtain ⟨hjun, oj, hoj, _⟩ := mem_ready.1 hj
      have hap := hfree j oj hoj hji hjun (not_waits hr hj oj hoj)
      have h2 := wpOp_putIf hoj hap (fun cs b => hsel i o cs b ho) (fun cs b => hsel j oj cs b hoj) hQ hy (h.2 j (ready_mono hj hji))
      refine wpOp_mono ?_ h2
      rintro a' w' ⟨hy', hS', h'⟩
      have hb' : barred bars (s.setIfInBounds j true) = true ∨ S w' := by
        rcases hS' with hb | hS'
        · left
          obtain ⟨b, hb, hl⟩ := List.any_eq_true.1 hb
          have e2 : i ≠ b := fun e => hib (e ▸ hb)
          refine List.any_eq_true.2 ⟨b, hb, ?_⟩
          by_cases e : j = b
          · subst e
            have hlt : j < s.size := by
              rcases Nat.lt_or_ge j s.size with h | h
              · exact h
              · simp [Array.getD_eq_getD_getElem?, Array.getElem?_eq_none h] at hjun
            simp [Array.getD_eq_getD_getElem?, hlt]
          · rw [getD_set_ne false e, getD_set_ne false e2] at hl
            rw [getD_set_ne false e]; exact hl
        · exact .inr hS'
      refine ⟨hb', ih (s.setIfInBounds j true) a' w' (fun q oq hq hqi hun hno => hfree q oq hq hqi ?_ hno) hib (ready_mono hr fun e => hji e.symm) hy' hb' ?_⟩
      · by_cases hjq : j = q
        · subst hjq; exact hjun
        · rwa [getD_set_ne true hjq] at hun
      · rw [Array.setIfInBounds_comm _ _ hji]; exact h'
end
section
variable {P : Program} {n : Fr} {w0 : World} {E : Env} {L LS : List Asrt} {bars : List Nat} {Q : Exit → Post} {K : Post} {l : List Oper} {f : Nat} {marks : Array Bool}
/-- What is left of a region comes up in whatever order; LS holds until a barrier comes up. -/
def WB (P : Program) (n : Fr) (w0 : World) (l : List Oper) (K : Post) (LS : List Asrt) (bars : List Nat) (f : Nat) (marks : Array Bool) (E : Env) (L : List Asrt) : Prop :=
  ∀ w, H w0 L w → ∀ Q : Exit → Act → World → Prop, (∀ c a w, ¬ Q (.panic c) a w) → (∀ E' L' w', H w0 L' w' → K E' L' → Q .normal (actOf n E') w') → wpUntil P l.toArray Q (H w0 LS) bars f marks (actOf n E) w
theorem WC.until (LS : List Asrt) (bars : List Nat) {id : Nat} (hf : fitsR n l = true) (hm : P.follows .mixedOrders = true) (h : WB P n w0 l (Q .normal) LS bars l.length (Array.replicate l.length false) E L) : WC P n w0 (.region id l.toArray true) Q E L := fun w hw => by
  refine wpF_any (by simpa using hf) liftQ_in hm ?_
  have := (h _ hw.drew (liftQ n w0 Q) (fun _ _ _ h => h) fun E' L' w' hH hK => ⟨_, _, rfl, hH, hK⟩).any
  simpa using this
theorem WC.untilL (bars : List Nat) {id : Nat} (hf : fitsR n l = true) (hm : P.follows .mixedOrders = true) (h : WB P n w0 l (Q .normal) L bars l.length (Array.replicate l.length false) E L) : WC P n w0 (.region id l.toArray true) Q E L := WC.until L bars hf hm h
/-- Behind the last barrier. -/
theorem WB.free (h : WY P n w0 l K f marks E L) (hb : ∀ i ∈ Region.ready .any l.toArray marks, i ∈ bars) (hr : Region.ready .any l.toArray marks = []) : WB P n w0 l K LS bars f marks E L := fun w hw Q hP hQ => by
  have := h w hw Q hP hQ
  cases f with
  | zero => exact this
  | succ f => exact ⟨this.1, by rw [hr]; simp⟩
theorem WB.done (hr : Region.ready .any l.toArray marks = []) (h : K E L) : WB P n w0 l K LS bars f marks E L := WB.free (WY.done hr h) (by rw [hr]; simp) hr
def barsOk (l : List Oper) (bars : List Nat) (marks : Array Bool) (i : Nat) : Bool := bars.all fun b => !marks.getD b false && directB l.toArray b i
theorem WB.take (i : Nat) {o : Oper} {d : Nat} {v : Value} (ho : l[i]? = some o) (hs : Region.noSelect l.toArray = true) (hf : Region.free .any l.toArray marks i = true) (hr : (Region.ready .any l.toArray marks).contains i = true)
    (hb : barsOk l bars marks i = true) (hg : o.guard = none) (hd : o.dst = some d) (hi : Imp L LS) (h : Gives P n (H w0 LS) o E v) (k : WB P n w0 l K LS bars f (marks.setIfInBounds i true) (E.set d v) L) : WB P n w0 l K LS bars (f + 1) marks E L := fun w hw Q hP hQ => by
  have ho' : l.toArray[i]? = some o := by rw [List.getElem?_toArray]; exact ho
  refine wpUntil.first ho' (Region.noSelect_spec hs) (fun c a w hq => absurd hq (hP _ _ _)) f marks _ w (Region.free_spec ho' hf) (fun b hbm => ?_) (by simpa using hr) (.inl ⟨by simp [Region.wanted, hg], fun w' hw' => h w' hw'⟩) (hi.h hw) ?_
  · have := List.all_eq_true.1 hb b hbm
    simp only [Bool.and_eq_true, Bool.not_eq_true'] at this
    exact this
  · rw [actOf_put, hd]
    exact k w hw Q hP hQ
theorem WB.takeP (i : Nat) {o : Oper} {d : Nat} {v : Value} (ho : l[i]? = some o) (hs : Region.noSelect l.toArray = true) (hf : Region.free .any l.toArray marks i = true) (hr : (Region.ready .any l.toArray marks).contains i = true)
    (hb : bars.contains i = false) (hg : o.guard = none) (hd : o.dst = some d) (hi : barred bars marks = true ∨ Imp L LS) (h : Gives P n (fun _ => True) o E v) (k : WB P n w0 l K LS bars f (marks.setIfInBounds i true) (E.set d v) L) : WB P n w0 l K LS bars (f + 1) marks E L := fun w hw Q hP hQ => by
  have ho' : l.toArray[i]? = some o := by rw [List.getElem?_toArray]; exact ho
  refine wpUntil.firstP ho' (Region.noSelect_spec hs) (fun c a w hq => absurd hq (hP _ _ _)) f marks _ w (Region.free_spec ho' hf) (by simpa using hb) (by simpa using hr) (.inl ⟨by simp [Region.wanted, hg], fun w' _ => h w' trivial⟩) (hi.imp id (fun h => h.h hw)) ?_
  rw [actOf_put, hd]
  exact k w hw Q hP hQ
theorem WB.all {rs : List Nat} (hr : Region.ready .any l.toArray marks = rs) (hne : rs ≠ []) (h : ∀ i ∈ rs, ∃ o, l[i]? = some o ∧ o.guard = none ∧ WL1 P n w0 l.toArray (fun E' L' => (barred bars (marks.setIfInBounds i true) = true ∨ Imp L' LS) ∧ WB P n w0 l K LS bars f (marks.setIfInBounds i true) E' L') o [] E L) : WB P n w0 l K LS bars (f + 1) marks E L := fun w hw Q hP hQ => by
  refine ⟨fun h0 => absurd (hr ▸ h0) hne, fun i hi => ?_⟩
  rw [hr] at hi
  obtain ⟨o, ho, hg, h1⟩ := h i hi
  unfold wpOp
  rw [List.getElem?_toArray, ho]
  simp only [Region.wanted, hg, if_true]
  left
  have h2 := h1 w hw (fun e a w => match e with | .normal => (barred bars (marks.setIfInBounds i true) = true ∨ H w0 LS w) ∧ wpUntil P l.toArray Q (H w0 LS) bars f (marks.setIfInBounds i true) a w | e => Q e a w) (fun E' L' w' hH hK => ⟨hK.1.imp id (fun h => h.h hH), hK.2 w' hH Q hP hQ⟩) (fun a w => (barred bars (marks.setIfInBounds i true) = true ∨ H w0 LS w) ∧ wpUntil P l.toArray Q (H w0 LS) bars f (marks.setIfInBounds i true) a w) (fun a w h => h)
  refine wp_panics ?_ h2
  intro e a w hne hq
  cases e <;> first | exact hq | exact absurd rfl hne
theorem WB.one (i : Nat) {o : Oper} (hr : Region.ready .any l.toArray marks = [i]) (ho : l[i]? = some o) (hg : o.guard = none) (h : WL1 P n w0 l.toArray (fun E' L' => (barred bars (marks.setIfInBounds i true) = true ∨ Imp L' LS) ∧ WB P n w0 l K LS bars f (marks.setIfInBounds i true) E' L') o [] E L) : WB P n w0 l K LS bars (f + 1) marks E L :=
  WB.all hr (by simp) fun j hj => by
    obtain rfl : j = i := by simpa using hj
    exact ⟨o, ho, hg, h⟩
theorem WB.two (i j : Nat) {o o' : Oper} (hr : Region.ready .any l.toArray marks = [i, j]) (ho : l[i]? = some o) (ho' : l[j]? = some o') (hg : o.guard = none) (hg' : o'.guard = none) (h : WL1 P n w0 l.toArray (fun E' L' => (barred bars (marks.setIfInBounds i true) = true ∨ Imp L' LS) ∧ WB P n w0 l K LS bars f (marks.setIfInBounds i true) E' L') o [] E L)
    (h' : WL1 P n w0 l.toArray (fun E' L' => (barred bars (marks.setIfInBounds j true) = true ∨ Imp L' LS) ∧ WB P n w0 l K LS bars f (marks.setIfInBounds j true) E' L') o' [] E L) : WB P n w0 l K LS bars (f + 1) marks E L :=
  WB.all hr (by simp) fun k hk => by
    rcases List.mem_cons.1 hk with rfl | hk
    · exact ⟨o, ho, hg, h⟩
    · obtain rfl : k = j := by simpa using hk
      exact ⟨o', ho', hg', h'⟩
end
theorem Imp.pick {A : Asrt} {L L1 M : List Asrt} (hT : Take A L L1) (h : Imp L1 M) : Imp L (A :: M) := (Imp.perm hT.perm).trans (Imp.cons h)
end Go.Proofs.Ytbofagfilohhfaa
