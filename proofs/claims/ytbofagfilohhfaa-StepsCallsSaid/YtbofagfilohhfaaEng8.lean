/- The program logic: a region whose order is open, of reads and of calls that leave old memory alone, with a tail that writes. Over any program. No condition. -/
import Derived.Test.YtbofagfilohhfaaEng7
namespace Go.Proofs.Ytbofagfilohhfaa
set_option maxRecDepth 20000
open Go.RowKit

section
variable {P : Program} {C : World → Prop} {l : List Oper} {m : Nat}
/-- Within the head the edges lead back, and the guards stay in the head. -/
def headOk (l : List Oper) (m : Nat) : Bool :=
  (List.range m).all fun i => match l[i]? with
    | some o => (o.after.all fun e => !Region.binds .any e || decide (e.on < i)) && (match o.guard with | some (j, _) => decide (j < m) | none => true)
    | none => false
def marksAt (m g : Nat) : Array Bool := Array.replicate m true ++ Array.replicate g false
/-- All of the head leads to its last operation, and every later operation waits for that one or for another later one ahead of it. -/
def tailOk (l : List Oper) (m : Nat) : Bool :=
  headOk l m && decide (m ≤ l.length) && ((List.range m).all fun i => decide (i + 1 = m) || (List.range m).any fun j => decide (i < j) && Region.waitsFor .any l.toArray j i) &&
  ((List.range l.length).all fun t => decide (m = 0) || decide (t < m) || Region.waitsFor .any l.toArray t (m - 1) || (List.range t).any fun t' => decide (m ≤ t') && Region.waitsFor .any l.toArray t t') && Region.lexB .any (l.take m).toArray
theorem headOk_spec (h : headOk l m = true) {i : Nat} (hi : i < m) : ∃ o, l[i]? = some o ∧ (∀ e ∈ o.after, Region.binds .any e = true → e.on < i) ∧ (∀ j b, o.guard = some (j, b) → j < m) := by
  have := List.all_eq_true.1 h i (List.mem_range.2 hi)
  cases ho : l[i]? with
  | none => rw [ho] at this; cases this
  | some o =>
    rw [ho] at this
    simp only [Bool.and_eq_true] at this
    refine ⟨o, rfl, fun e he hb => ?_, fun j b hg => ?_⟩
    · have h1 := Array.all_eq_true'.1 this.1 e he
      rw [hb] at h1
      simpa using h1
    · have h2 := this.2
      rw [hg] at h2
      simpa using h2
theorem take_get {i : Nat} (hi : i < m) : (l.take m).toArray[i]? = l.toArray[i]? := by simp [hi]
/-- Marks of the head, then none. -/
def ext (s : Array Bool) (g : Nat) : Array Bool := s ++ Array.replicate g false
theorem ext_getD {s : Array Bool} {g i : Nat} {d : Bool} (hi : i < s.size) : (ext s g).getD i d = s.getD i d := by
  unfold ext
  simp [Array.getD_eq_getD_getElem?, Array.getElem?_append, hi]
theorem ext_set {s : Array Bool} {g i : Nat} (hi : i < s.size) : (ext s g).setIfInBounds i true = ext (s.setIfInBounds i true) g := by
  unfold ext
  apply Array.ext'
  simp [List.set_append, hi]
theorem ready_head {s : Array Bool} {g i : Nat} (hs : s.size = m) (hm : m ≤ l.length) (hok : headOk l m = true) (hi : i < m) : i ∈ Region.ready .any l.toArray (ext s g) ↔ i ∈ Region.ready .any (l.take m).toArray s := by
  rw [mem_ready, mem_ready, take_get hi, ext_getD (by omega)]
  constructor
  · rintro ⟨h1, o, ho, h2⟩
    refine ⟨h1, o, ho, fun e he hb => ?_⟩
    obtain ⟨o', ho', he', _⟩ := headOk_spec hok hi
    have : o = o' := by rw [List.getElem?_toArray] at ho; exact Option.some.inj (ho.symm.trans ho')
    subst this
    have := h2 e he hb
    rwa [ext_getD (by have := he' e he hb; omega)] at this
  · rintro ⟨h1, o, ho, h2⟩
    refine ⟨h1, o, ho, fun e he hb => ?_⟩
    obtain ⟨o', ho', he', _⟩ := headOk_spec hok hi
    have : o = o' := by rw [List.getElem?_toArray] at ho; exact Option.some.inj (ho.symm.trans ho')
    subst this
    rw [ext_getD (by have := he' e he hb; omega)]
    exact h2 e he hb
theorem yielded_head {tmps : Array Value} {j : Nat} (hj : j < m) : yielded (l.take m).toArray tmps j = yielded l.toArray tmps j := by
  unfold yielded; rw [take_get hj]
theorem wpOp_head {Q : Exit → Act → World → Prop} {i : Nat} {K : Act → World → Prop} {a : Act} {w : World} (hok : headOk l m = true) (hi : i < m) (h : wpOp P (l.take m).toArray Q i K a w) : wpOp P l.toArray Q i K a w := by
  unfold wpOp at *
  rw [take_get hi] at h
  obtain ⟨o, ho, _, hg⟩ := headOk_spec hok hi
  rw [List.getElem?_toArray, ho] at h ⊢
  have hw : Region.wanted o (yielded (l.take m).toArray a.tmps) = Region.wanted o (yielded l.toArray a.tmps) := by
    unfold Region.wanted
    cases hgd : o.guard with
    | none => rfl
    | some p => obtain ⟨j, b⟩ := p; simp only; rw [yielded_head (hg j b hgd)]
  simp only at h ⊢
  rw [hw] at h
  exact h
/-- How many of the head are still to come. -/
def left (s : Array Bool) : Nat := s.toList.countP (! ·)
theorem left_set {s : Array Bool} {i : Nat} (hi : i < s.size) (h : s.getD i true = false) : left (s.setIfInBounds i true) + 1 = left s := by
  unfold left
  have hg : s.toList[i]'(by simpa using hi) = false := by simpa [Array.getD, hi] using h
  rw [Array.toList_setIfInBounds, List.set_eq_take_append_cons_drop, if_pos (by simpa using hi), List.countP_append, List.countP_cons]
  have h2 : s.toList = s.toList.take i ++ false :: s.toList.drop (i + 1) := by
    have h3 : s.toList = s.toList.take i ++ s.toList[i]'(by simpa using hi) :: s.toList.drop (i + 1) := by rw [List.getElem_cons_drop, List.take_append_drop]
    rw [hg] at h3; exact h3
  conv => rhs; rw [h2, List.countP_append, List.countP_cons]
  simp
  omega
theorem all_listed {s : Array Bool} (h : left s = 0) : s = Array.replicate s.size true := by
  unfold left at h
  rw [List.countP_eq_zero] at h
  apply Array.ext'
  rw [Array.toList_replicate]
  apply List.eq_replicate_iff.2
  exact ⟨by simp, fun b hb => by simpa using h b hb⟩
theorem some_ready {s : Array Bool} (hs : s.size = m) (hok : headOk l m = true) (h : 0 < left s) : ∃ i, i < m ∧ i ∈ Region.ready .any (l.take m).toArray s := by
  have hex : ∃ i, i < m ∧ s.getD i true = false := by
    unfold left at h
    obtain ⟨b, hb, hb2⟩ := List.countP_pos_iff.1 h
    obtain ⟨i, hi, rfl⟩ := List.getElem_of_mem hb
    refine ⟨i, by rw [← hs]; simpa using hi, ?_⟩
    have hi' : i < s.size := by simpa using hi
    simp [hi'] at hb2 ⊢
    exact hb2
  obtain ⟨i, ⟨hi, hf⟩, hmin⟩ := exists_least hex
  refine ⟨i, hi, ?_⟩
  obtain ⟨o, ho, he, _⟩ := headOk_spec hok hi
  refine mem_ready.2 ⟨hf, o, by rw [take_get hi, List.getElem?_toArray]; exact ho, fun e hee hb => ?_⟩
  have hlt := he e hee hb
  cases hd : s.getD e.on false with
  | true => rfl
  | false =>
    exfalso
    have : s.getD e.on true = false := getD_in (by omega) hd
    have := hmin e.on ⟨by omega, this⟩
    omega
theorem wp_panics {P : Program} {o : Oper} {a : Act} {w : World} {K : Act → World → Prop} {Q Q' : Exit → Act → World → Prop} (hp : ∀ e a w, (∀ h : e = .normal, False) → Q e a w → Q' e a w) (h : o.wp P a w K Q) : o.wp P a w K Q' := by
  unfold Oper.wp at *
  generalize (execOp a.eval o).run P w = r at *
  cases r with
  | ok n w' =>
    cases n <;> simp only [Oper.upon] at h ⊢ <;>
      first
        | exact h
        | exact Calls.mono h (fun e w'' he => by
            cases e with
            | returned v => exact he
            | panicked c => exact hp _ _ _ (fun h => by cases h) he
            | outgrown => obtain ⟨a', w3, hq⟩ := he; exact ⟨a', w3, hp _ _ _ (fun h => by cases h) hq⟩)
  | halt x w' =>
    cases x <;> simp only [Oper.upon] at h ⊢ <;> first | exact h | exact hp _ _ _ (fun h => by cases h) h
theorem sink_all (h : ((List.range m).all fun i => decide (i + 1 = m) || (List.range m).any fun j => decide (i < j) && Region.waitsFor .any l.toArray j i) = true) {marks : Array Bool} (inv : HeadInv .any l.toArray m marks) (hm : m ≤ l.length)
    (hlast : marks.getD (m - 1) false = true) : ∀ (d i : Nat), m - i = d → i < m → marks.getD i false = true := by
  intro d
  induction d using Nat.strongRecOn with
  | _ d ih =>
    intro i hd hi
    have h1 := List.all_eq_true.1 h i (List.mem_range.2 hi)
    simp only [Bool.or_eq_true, decide_eq_true_eq] at h1
    rcases h1 with h1 | h1
    · rw [show i = m - 1 from by omega]; exact hlast
    · obtain ⟨j, hj, hj2⟩ := List.any_eq_true.1 h1
      simp only [Bool.and_eq_true, decide_eq_true_eq] at hj2
      obtain ⟨oj, hoj, e, he, hb, hon⟩ := Region.waitsFor_spec hj2.2
      have hjm := List.mem_range.1 hj
      have := ih (m - j) (by omega) j rfl hjm
      rw [← hon]
      exact inv.closed j oj hoj this e he hb
theorem tail_not_ready (h : ((List.range m).all fun i => decide (i + 1 = m) || (List.range m).any fun j => decide (i < j) && Region.waitsFor .any l.toArray j i) = true)
    (h2 : ((List.range l.length).all fun t => decide (m = 0) || decide (t < m) || Region.waitsFor .any l.toArray t (m - 1) || (List.range t).any fun t' => decide (m ≤ t') && Region.waitsFor .any l.toArray t t') = true)
    {marks : Array Bool} (inv : HeadInv .any l.toArray m marks) (hm : m ≤ l.length) {i : Nat} (hi : i < m) (hun : marks.getD i true = false) (t : Nat) (ht : m ≤ t) : t ∉ Region.ready .any l.toArray marks := by
  intro hr
  obtain ⟨_, ot, hot, hall⟩ := mem_ready.1 hr
  have htl : t < l.length := by have := (Array.getElem?_eq_some_iff.1 hot).1; simpa using this
  have h3 := List.all_eq_true.1 h2 t (List.mem_range.2 htl)
  simp only [Bool.or_eq_true, decide_eq_true_eq] at h3
  rcases h3 with ((h3 | h3) | h3) | h3
  · omega
  · omega
  · obtain ⟨o', ho', e, he, hb, hon⟩ := Region.waitsFor_spec h3
    have : o' = ot := Option.some.inj (ho'.symm.trans hot)
    subst this
    have hl := hall e he hb
    rw [hon] at hl
    have := sink_all h inv hm hl _ i rfl hi
    rw [getD_both hun] at this
    cases this
  · obtain ⟨t', ht', h4⟩ := List.any_eq_true.1 h3
    simp only [Bool.and_eq_true, decide_eq_true_eq] at h4
    obtain ⟨o', ho', e, he, hb, hon⟩ := Region.waitsFor_spec h4.2
    have : o' = ot := Option.some.inj (ho'.symm.trans hot)
    subst this
    have hl := hall e he hb
    rw [hon, getD_both (inv.tail t' h4.1 (by have := List.mem_range.1 ht'; simp; omega))] at hl
    cases hl
theorem wpAny_head {Q : Exit → Act → World → Prop} {g : Nat} (hg : l.length = m + g) (hok : headOk l m = true) (hsk : ((List.range m).all fun i => decide (i + 1 = m) || (List.range m).any fun j => decide (i < j) && Region.waitsFor .any l.toArray j i) = true)
    (hch : ((List.range l.length).all fun t => decide (m = 0) || decide (t < m) || Region.waitsFor .any l.toArray t (m - 1) || (List.range t).any fun t' => decide (m ≤ t') && Region.waitsFor .any l.toArray t t') = true) :
    ∀ (f : Nat) (s : Array Bool) (a : Act) (w : World), C w → s.size = m → left s = f → HeadInv .any l.toArray m (ext s g) →
      wpAnyQ P .any (l.take m).toArray C (fun a' => ∀ w', C w' → wpAny P .any l.toArray Q g (marksAt m g) a' w') f s a → wpAny P .any l.toArray Q (f + g) (ext s g) a w
  | 0, s, a, w, hC, hs, hl, _, h => by
    have hall : ext s g = marksAt m g := by unfold ext marksAt; rw [all_listed hl, hs]
    rw [Nat.zero_add, hall]
    exact h.2 w hC
  | f + 1, s, a, w, hC, hs, hl, inv, h => by
    rw [show f + 1 + g = (f + g) + 1 from by omega]
    obtain ⟨i0, hi0, hr0⟩ := some_ready (s := s) hs hok (by omega)
    have hr0' := (ready_head (g := g) hs (by omega) hok hi0).2 hr0
    refine ⟨fun h1 => (by rw [h1] at hr0'; cases hr0'), fun i hi => ?_⟩
    have him : i < m := by
      rcases Nat.lt_or_ge i m with h1 | h1
      · exact h1
      · exact absurd hi (tail_not_ready hsk hch inv (by omega) hi0 (mem_ready.1 hr0').1 i h1)
    have hri := (ready_head (g := g) hs (by omega) hok him).1 hi
    have hun := (mem_ready.1 hri).1
    refine wpOp_head hok him (wpOp_of_qOp hC (fun a' w' hw' hk => ?_) (h.2 i hri))
    rw [ext_set (by omega)]
    refine wpAny_head hg hok hsk hch f _ a' w' hw' (by simpa using hs) (by have := left_set (s := s) (i := i) (by omega) hun; omega) ?_ hk
    rw [← ext_set (by omega)]
    exact inv.set hi him
theorem wp_region_split {n : Fr} {id : Nat} {Q : Exit → Act → World → Prop} {a : Act} {w : World} (hf : fitsR n l = true) (hQ : ¬ LetsOut Q) (hm : P.follows .mixedOrders = true) (hB : tailOk l m = true) (hC : C { w with drawn := w.drawn + 1 })
    (h : wpQuiet P (l.take m).toArray C (fun a' => ∀ w', C w' → wpAny P .any l.toArray Q (l.length - m) (marksAt m (l.length - m)) a' w') (l.take m) a) : wpF n P (.region id l.toArray true) Q a w := by
  simp only [tailOk, Bool.and_eq_true, decide_eq_true_eq] at hB
  obtain ⟨⟨⟨⟨hok, hlt⟩, hsk⟩, hch⟩, hlex⟩ := hB
  simp only [Region.lexB, Bool.and_eq_true] at hlex
  have htl : (l.take m).length = m := by simp; omega
  have hq := wpAnyQ_lex (C := C) (md := .any) hlex.1 (l.take m) 0 (Array.replicate m false) a (by simp) (by have := hlex.2; simpa [htl, List.length_take, Nat.min_eq_left hlt] using this) h
  rw [htl] at hq
  refine wpF_any (by simpa using hf) hQ hm ?_
  have hext : Array.replicate l.toArray.size false = ext (Array.replicate m false) (l.length - m) := by
    unfold ext
    apply Array.ext'
    simp [List.replicate_append_replicate]
    omega
  have := wpAny_head (C := C) (Q := Q) (g := l.length - m) (by omega) hok hsk hch m (Array.replicate m false) a _ hC (by simp) (by simp [left, List.countP_replicate]) ?_ hq
  · rw [hext]
    have e : l.toArray.size = m + (l.length - m) := by simp; omega
    rw [e]; exact this
  · rw [← hext]
    exact ⟨by simp, fun j oj _ hl => (by rw [getD_replicate_false] at hl; cases hl), fun t _ ht => getD_in (by simpa using ht) (getD_replicate_false _ _)⟩
end
section
variable {P : Program} {n : Fr} {w0 : World} {E : Env} {L : List Asrt} {Q : Exit → Post} {K : Post} {l : List Oper} {f : Nat} {marks : Array Bool}
/-- What is left of a region comes up in whatever order. -/
def WY (P : Program) (n : Fr) (w0 : World) (l : List Oper) (K : Post) (f : Nat) (marks : Array Bool) (E : Env) (L : List Asrt) : Prop :=
  ∀ w, H w0 L w → ∀ Q : Exit → Act → World → Prop, (∀ c a w, ¬ Q (.panic c) a w) → (∀ E' L' w', H w0 L' w' → K E' L' → Q .normal (actOf n E') w') → wpAny P .any l.toArray Q f marks (actOf n E) w
theorem WC.split (m : Nat) {id : Nat} (hf : fitsR n l = true) (hm : P.follows .mixedOrders = true) (hB : tailOk l m = true)
    (h : WQ P n w0 (l.take m).toArray (fun E' L' => WY P n w0 l (Q .normal) (l.length - m) (marksAt m (l.length - m)) E' L') (l.take m) E L) : WC P n w0 (.region id l.toArray true) Q E L := fun w hw => by
  refine wp_region_split (C := H w0 L) (m := m) hf liftQ_in hm hB hw.drew ?_
  exact h _ fun E' hT w' hw' => hT w' hw' _ (fun _ _ _ h => h) fun E'' L'' w'' hH hK => ⟨_, _, rfl, hH, hK⟩
theorem WY.done (hr : Region.ready .any l.toArray marks = []) (h : K E L) : WY P n w0 l K f marks E L := fun w hw Q _ hQ => by
  cases f with
  | zero => exact ⟨hr, hQ _ _ _ hw h⟩
  | succ f => exact ⟨fun _ => hQ _ _ _ hw h, by rw [hr]; simp⟩
/-- What yields its value in every world is taken first. -/
theorem WY.take (i : Nat) {o : Oper} {d : Nat} {v : Value} (ho : l[i]? = some o) (hs : Region.noSelect l.toArray = true) (hf : Region.free .any l.toArray marks i = true) (hr : (Region.ready .any l.toArray marks).contains i = true)
    (hg : o.guard = none) (hd : o.dst = some d) (h : Gives P n (fun _ => True) o E v) (k : WY P n w0 l K f (marks.setIfInBounds i true) (E.set d v) L) : WY P n w0 l K (f + 1) marks E L := fun w hw Q hP hQ => by
  refine wpAny_take (i := i) (oi := o) (v := v) (by rw [List.getElem?_toArray]; exact ho) hs hf hr (fun c a w hq => absurd hq (hP _ _ _)) (.inl ⟨by simp [Region.wanted, hg], fun w' => h w' trivial⟩) ?_
  rw [actOf_put, hd]
  exact k w hw Q hP hQ
/-- Only these may come up. -/
theorem WY.all {rs : List Nat} (hr : Region.ready .any l.toArray marks = rs) (hne : rs ≠ []) (h : ∀ i ∈ rs, ∃ o, l[i]? = some o ∧ o.guard = none ∧ WL1 P n w0 l.toArray (fun E' L' => WY P n w0 l K f (marks.setIfInBounds i true) E' L') o [] E L) : WY P n w0 l K (f + 1) marks E L := fun w hw Q hP hQ => by
  refine ⟨fun h0 => absurd (hr ▸ h0) hne, fun i hi => ?_⟩
  rw [hr] at hi
  obtain ⟨o, ho, hg, h1⟩ := h i hi
  unfold wpOp
  rw [List.getElem?_toArray, ho]
  simp only [Region.wanted, hg, if_true]
  left
  have h2 := h1 w hw (fun e a w => match e with | .normal => wpAny P .any l.toArray Q f (marks.setIfInBounds i true) a w | e => Q e a w) (fun E' L' w' hH hK => hK w' hH Q hP hQ) (fun a w => wpAny P .any l.toArray Q f (marks.setIfInBounds i true) a w) (fun a w h => h)
  refine wp_panics ?_ h2
  intro e a w hne hq
  cases e <;> first | exact hq | exact absurd rfl hne
theorem WY.one (i : Nat) {o : Oper} (hr : Region.ready .any l.toArray marks = [i]) (ho : l[i]? = some o) (hg : o.guard = none) (h : WL1 P n w0 l.toArray (fun E' L' => WY P n w0 l K f (marks.setIfInBounds i true) E' L') o [] E L) : WY P n w0 l K (f + 1) marks E L :=
  WY.all hr (by simp) fun j hj => by
    obtain rfl : j = i := by simpa using hj
    exact ⟨o, ho, hg, h⟩
theorem WY.two (i j : Nat) {o o' : Oper} (hr : Region.ready .any l.toArray marks = [i, j]) (ho : l[i]? = some o) (ho' : l[j]? = some o') (hg : o.guard = none) (hg' : o'.guard = none) (h : WL1 P n w0 l.toArray (fun E' L' => WY P n w0 l K f (marks.setIfInBounds i true) E' L') o [] E L)
    (h' : WL1 P n w0 l.toArray (fun E' L' => WY P n w0 l K f (marks.setIfInBounds j true) E' L') o' [] E L) : WY P n w0 l K (f + 1) marks E L :=
  WY.all hr (by simp) fun k hk => by
    rcases List.mem_cons.1 hk with rfl | hk
    · exact ⟨o, ho, hg, h⟩
    · obtain rfl : k = j := by simpa using hk
      exact ⟨o', ho', hg', h'⟩
end
/-! ### Where ways meet -/
section
variable {P : Program} {n : Fr} {w0 : World} {E : Env} {L : List Asrt} {Q : Exit → Post}
theorem WC.seqM {x y : Code} {γ : Type} (m : Nat) (VI : γ → List (Nat × Value)) (LI : γ → List Asrt) (h1 : WC P n w0 x (seqQ (fun E' L' => ∃ g, Out m E' E ∧ Agree E' (VI g) ∧ ∃ L2, L'.Perm L2 ∧ (LI g).Sublist L2) Q) E L)
    (h2 : ∀ g U, WC P n w0 y Q (sets (hav m E U) (VI g)) (LI g)) : WC P n w0 (.seq x y) Q E L := by
  refine WC.seq fun K hK w hw => wpMono ?_ (h1 w hw)
  intro e a w' hq
  cases e with
  | normal =>
    obtain ⟨E', L', rfl, hH, g, ho, ha, L2, hp, hs⟩ := hq
    refine ⟨E', LI g, rfl, (hH.perm hp).sub hs, hK _ _ ?_⟩
    have := h2 g E'
    rwa [hav_out ho, sets_same ha] at this
  | _ => exact hq
end
end Go.Proofs.Ytbofagfilohhfaa
