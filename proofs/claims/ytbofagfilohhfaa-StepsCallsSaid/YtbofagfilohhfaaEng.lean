/- A small program logic over the walk's own 'wp': frames as functions, memory as a list of assertions over separate blocks. Over any program. No condition. -/
import Derived.Test.YtbofagfilohhfaaMem
namespace Go.Proofs.Ytbofagfilohhfaa
set_option maxRecDepth 20000
open Go.RowKit

/-! ### Frames -/
abbrev Env := Nat → Value
def Env.set (E : Env) (i : Nat) (v : Value) : Env := fun t => cond (Nat.beq t i) v (E t)
def Env.put (E : Env) (d : Option Tmp) (v : Value) : Env := match d with | some i => E.set i v | none => E
def Env.ev (E : Env) : Operand → Value
  | .tmp t => E t
  | .const v => v
  | .global g => .pointer (some ⟨g, 0, none⟩)
  | .func f => .func (.func f) #[] #[]
/-- What stays of a frame: the number of its slots, the round that it is of, its deferred calls. -/
structure Fr where
  n : Nat
  ro : Option Nat
  ds : List Deferred
def actOf (n : Fr) (E : Env) : Act := { tmps := (Array.range n.n).map E, defers := n.ds }
theorem actOf_get (n : Fr) (E : Env) (t : Nat) : (actOf n E).tmps[t]? = if t < n.n then some (E t) else none := by
  unfold actOf
  by_cases h : t < n.n <;> simp [h]
theorem actOf_put (n : Fr) (E : Env) (d : Option Tmp) (v : Value) : (actOf n E).put d v = actOf n (E.put d v) := by
  cases d with
  | none => rfl
  | some i =>
    unfold Act.put Env.put actOf
    simp only
    congr 1
    apply Array.ext'
    apply List.ext_getElem?
    intro t
    simp only [Array.getElem?_toList, Array.getElem?_setIfInBounds, Array.getElem?_map, Array.size_map, Array.size_range, Array.getElem?_range]
    by_cases h : i = t
    · subst h
      by_cases h2 : i < n.n
      · simp [h2, Env.set, show Nat.beq i i = true from Nat.beq_refl i]
      · simp [h2]
    · have : Nat.beq t i = false := by
        cases hb : Nat.beq t i with
        | false => rfl
        | true => exact absurd (Nat.eq_of_beq_eq_true hb).symm h
      rw [if_neg h]
      by_cases h2 : t < n.n
      · simp [h2, Env.set, this]
      · simp [h2]
/-- What an operand is. -/
def Ev (n : Fr) (E : Env) (x : Operand) (v : Value) : Prop := (actOf n E).eval x = v
theorem Ev.t {n : Fr} {E : Env} {t : Nat} {v : Value} (h : Nat.blt t n.n = true) (h2 : E t = v) : Ev n E (.tmp t) v := by
  unfold Ev Act.eval
  have h3 : t < n.n := Nat.lt_of_not_le (fun h4 => by rw [Nat.blt] at h; have := Nat.le_of_ble_eq_true h; omega)
  show (actOf n E).tmps.getD t undef = v
  rw [Array.getD_eq_getD_getElem?, actOf_get, if_pos h3]
  exact h2
def okx (n : Fr) : Operand → Bool
  | .tmp t => Nat.blt t n.n
  | _ => true
theorem Ev.mk {n : Fr} {E : Env} {x : Operand} {v : Value} (h : okx n x = true) (h2 : E.ev x = v) : Ev n E x v := by
  cases x with
  | tmp t => exact Ev.t h h2
  | _ => exact h2
theorem Ev.c {n : Fr} {E : Env} {v : Value} : Ev n E (.const v) v := rfl
theorem Ev.f {n : Fr} {E : Env} {f : FuncId} : Ev n E (.func f) (.func (.func f) #[] #[]) := rfl
inductive Evs (n : Fr) (E : Env) : List Operand → List Value → Prop
  | nil : Evs n E [] []
  | cons {x : Operand} {v : Value} {xs : List Operand} {vs : List Value} : Ev n E x v → Evs n E xs vs → Evs n E (x :: xs) (v :: vs)
theorem Evs.map {n : Fr} {E : Env} {xs : List Operand} {vs : List Value} (h : Evs n E xs vs) : xs.map (actOf n E).eval = vs := by
  induction h with
  | nil => rfl
  | cons h _ ih => rw [List.map_cons, ih]; exact congrArg (· :: _) h
/-- Several slots at once. -/
def sets (E : Env) : List (Nat × Value) → Env
  | [] => E
  | (i, v) :: l => (sets E l).set i v
def Agree (E : Env) : List (Nat × Value) → Prop
  | [] => True
  | (i, v) :: l => E i = v ∧ Agree E l
theorem set_same {E : Env} {i : Nat} {v : Value} (h : E i = v) : E.set i v = E := by
  funext t
  unfold Env.set
  cases hb : Nat.beq t i with
  | false => rfl
  | true => have := Nat.eq_of_beq_eq_true hb; subst this; exact h.symm
theorem sets_same {E : Env} : ∀ {l : List (Nat × Value)}, Agree E l → sets E l = E
  | [], _ => rfl
  | (i, v) :: l, h => by unfold sets; rw [sets_same h.2, set_same h.1]
/-- Slots of the mask are unknown. -/
def hav (m : Nat) (E U : Env) : Env := fun t => cond (Nat.testBit m t) (U t) (E t)
/-- Outside the mask the two frames are one. -/
def Out (m : Nat) (E' E : Env) : Prop := ∀ t, Nat.testBit m t = false → E' t = E t
theorem Out.refl (m : Nat) (E : Env) : Out m E E := fun _ _ => rfl
theorem Out.set {m : Nat} {E' E : Env} {i : Nat} {v : Value} (hi : Nat.testBit m i = true) (h : Out m E' E) : Out m (E'.set i v) E := fun t ht => by
  have : Nat.beq t i = false := by
    cases hb : Nat.beq t i with
    | false => rfl
    | true => have := Nat.eq_of_beq_eq_true hb; subst this; rw [hi] at ht; cases ht
  show cond _ _ _ = _
  rw [this]
  exact h t ht
theorem Out.put {m : Nat} {E' E : Env} {i : Nat} {v : Value} (hi : Nat.testBit m i = true) (h : Out m E' E) : Out m (E'.put (some i) v) E := h.set hi
theorem Out.sets {m : Nat} {E' E : Env} : ∀ {l : List (Nat × Value)}, (l.all fun p => Nat.testBit m p.1) = true → Out m E' E → Out m (sets E' l) E
  | [], _, h => h
  | (i, v) :: l, hl, h => by
    simp only [List.all_cons, Bool.and_eq_true] at hl
    exact (Out.sets hl.2 h).set hl.1
theorem Out.hav {m m' : Nat} {E' E U : Env} (hm : m' &&& m = m') (h : Out m E' E) : Out m (hav m' E' U) E := fun t ht => by
  have : Nat.testBit m' t = false := by
    have := congrArg (fun x => Nat.testBit x t) hm
    simp only [Nat.testBit_and, ht, Bool.and_false] at this
    exact this.symm
  show cond _ _ _ = _
  rw [this]
  exact h t ht
theorem hav_out {m : Nat} {E' E : Env} (h : Out m E' E) : hav m E E' = E' := by
  funext t
  show cond _ _ _ = _
  cases ht : Nat.testBit m t with
  | true => rfl
  | false => exact (h t ht).symm

/-! ### Memory -/
/-- What is known of some blocks. -/
structure Asrt where
  foot : Nat → Prop
  ok : World → Prop
  loc : ∀ w w', (∀ b, foot b → w'.heap[b]? = w.heap[b]?) → ok w → ok w'
def Sep (B : Nat) (w : World) : List Asrt → Prop
  | [] => True
  | A :: L => A.ok w ∧ (∀ b, A.foot b → B ≤ b ∧ b < w.heap.size) ∧ (∀ C ∈ L, ∀ b, A.foot b → C.foot b → False) ∧ Sep B w L
/-- Below the first blocks the world is as w0 was; from there on the assertions hold, of blocks apart. -/
def H (w0 : World) (L : List Asrt) (w : World) : Prop := Below w0.heap.size w0 w ∧ Sep w0.heap.size w L
theorem Sep.later {B : Nat} {w w' : World} : ∀ {L : List Asrt}, Sep B w L → w.heap.size ≤ w'.heap.size → (∀ A ∈ L, ∀ b, A.foot b → w'.heap[b]? = w.heap[b]?) → Sep B w' L
  | [], _, _, _ => trivial
  | A :: L, ⟨h1, h2, h3, h4⟩, hs, hb => ⟨A.loc w w' (hb A (by simp)) h1, fun b h => ⟨(h2 b h).1, Nat.lt_of_lt_of_le (h2 b h).2 hs⟩, h3, h4.later hs fun C hC => hb C (by simp [hC])⟩
theorem Sep.in_ {B : Nat} {w : World} : ∀ {L : List Asrt}, Sep B w L → ∀ A ∈ L, A.ok w ∧ ∀ b, A.foot b → B ≤ b ∧ b < w.heap.size
  | A :: _, ⟨h1, h2, _, _⟩, _, .head _ => ⟨h1, h2⟩
  | _ :: _, ⟨_, _, _, h4⟩, C, .tail _ h => h4.in_ C h
theorem Sep.below {B : Nat} {w w' : World} {L : List Asrt} (h : Sep B w L) (hb : Below w.heap.size w w') : Sep B w' L :=
  h.later hb.size fun A hA b hf => hb.block b ((h.in_ A hA).2 b hf).2
theorem H.below {w0 w w' : World} {L : List Asrt} (h : H w0 L w) (hb : Below w.heap.size w w') : H w0 L w' :=
  ⟨h.1.trans (hb.mono h.1.size), h.2.below hb⟩
theorem H.refl (w : World) : H w [] w := ⟨Below.refl _ _, trivial⟩
theorem H.drew {w0 w : World} {L : List Asrt} (h : H w0 L w) : H w0 L w.drew := h.below ((Below.refl _ _).drew)
theorem Sep.append {B : Nat} {w : World} : ∀ {L M : List Asrt}, Sep B w L → Sep B w M → (∀ A ∈ L, ∀ C ∈ M, ∀ b, A.foot b → C.foot b → False) → Sep B w (L ++ M)
  | [], _, _, h, _ => h
  | A :: L, M, ⟨h1, h2, h3, h4⟩, hm, hd => ⟨h1, h2, fun C hC b => by
      rcases List.mem_append.1 hC with h | h
      · exact h3 C h b
      · exact hd A (by simp) C h b, h4.append hm fun C hC D hD => hd C (by simp [hC]) D hD⟩
theorem Sep.mono {B B' : Nat} {w : World} (hB : B ≤ B') : ∀ {L : List Asrt}, Sep B' w L → Sep B w L
  | [], _ => trivial
  | _ :: _, ⟨h1, h2, h3, h4⟩ => ⟨h1, fun b h => ⟨Nat.le_trans hB (h2 b h).1, (h2 b h).2⟩, h3, h4.mono hB⟩
/-- A callee's blocks join the caller's. -/
theorem H.join {w0 w w' : World} {L M : List Asrt} (h : H w0 L w) (h' : H w M w') : H w0 (M ++ L) w' :=
  ⟨h.1.trans (h'.1.mono h.1.size), (h'.2.mono h.1.size).append (h.2.below h'.1) fun A hA C hC b hb hb' => by
    have h1 := ((h'.2.in_ A hA).2 b hb).1
    have h2 := ((h.2.in_ C hC).2 b hb').2
    omega⟩
theorem Sep.sub {B : Nat} {w : World} {L M : List Asrt} (h : L.Sublist M) (hM : Sep B w M) : Sep B w L := by
  induction h with
  | slnil => exact hM
  | cons A _ ih => exact ih hM.2.2.2
  | cons_cons A hs ih => exact ⟨hM.1, hM.2.1, fun C hC => hM.2.2.1 C (hs.subset hC), ih hM.2.2.2⟩
theorem H.sub {w0 w : World} {L M : List Asrt} (h : L.Sublist M) (hM : H w0 M w) : H w0 L w := ⟨hM.1, hM.2.sub h⟩
/-- Block b of element type e holds the cells cs. -/
def pt (b : Nat) (e : TypeId) (cs : List Value) : Asrt where
  foot k := k = b
  ok w := w.heap[b]? = some (.cells cs.toArray e (0, 0))
  loc w w' h hw := (h b rfl).trans hw
theorem Sep.swap {B : Nat} {w : World} {A C : Asrt} {L : List Asrt} (h : Sep B w (A :: C :: L)) : Sep B w (C :: A :: L) := by
  obtain ⟨h1, h2, h3, h4, h5, h6, h7⟩ := h
  refine ⟨h4, h5, fun D hD b hb hb' => ?_, h1, h2, fun D hD => h3 D (by simp [hD]), h7⟩
  rcases List.mem_cons.1 hD with rfl | hD
  · exact h3 C (by simp) b hb' hb
  · exact h6 D hD b hb hb'
theorem Sep.perm {B : Nat} {w : World} {L M : List Asrt} (h : L.Perm M) : Sep B w L → Sep B w M := by
  induction h with
  | nil => exact id
  | @cons A L M hp ih => exact fun ⟨h1, h2, h3, h4⟩ => ⟨h1, h2, fun C hC => h3 C (hp.mem_iff.2 hC), ih h4⟩
  | swap A C L => exact Sep.swap
  | trans _ _ ih1 ih2 => exact fun h => ih2 (ih1 h)
theorem H.perm {w0 w : World} {L M : List Asrt} (h : L.Perm M) (hL : H w0 L w) : H w0 M w := ⟨hL.1, hL.2.perm h⟩
/-- One assertion of a list is exchanged for another. -/
inductive Swap (A A' : Asrt) : List Asrt → List Asrt → Prop
  | head {L : List Asrt} : Swap A A' (A :: L) (A' :: L)
  | tail {C : Asrt} {L L' : List Asrt} : Swap A A' L L' → Swap A A' (C :: L) (C :: L')
theorem Swap.mem {A A' : Asrt} {L L' : List Asrt} (h : Swap A A' L L') : A ∈ L := by
  induction h with
  | head => simp
  | tail _ ih => exact .tail _ ih
theorem Swap.mem' {A A' : Asrt} {L L' : List Asrt} (h : Swap A A' L L') : ∀ C ∈ L', C = A' ∨ C ∈ L := by
  induction h with
  | head => intro C hC; rcases List.mem_cons.1 hC with h | h; exact .inl h; exact .inr (.tail _ h)
  | tail _ ih => intro C hC; rcases List.mem_cons.1 hC with h | h; exact .inr (by simp [h]); rcases ih C h with h | h; exact .inl h; exact .inr (.tail _ h)
/-- The new assertion's blocks are the old one's; the world has turned there alone. -/
theorem Sep.swapped {B : Nat} {w w' : World} {A A' : Asrt} (hs : w'.heap.size = w.heap.size) (hf : ∀ b, A'.foot b → A.foot b) (ho : ∀ b, ¬ A.foot b → w'.heap[b]? = w.heap[b]?) (hk : A'.ok w')
    {L L' : List Asrt} (h : Swap A A' L L') : Sep B w L → Sep B w' L' := by
  induction h with
  | head =>
    exact fun ⟨_, h2, h3, h4⟩ => ⟨hk, fun b hb => by rw [hs]; exact h2 b (hf b hb), fun C hC b hb => h3 C hC b (hf b hb), h4.later (Nat.le_of_eq hs.symm) fun C hC b hb => ho b fun hA => h3 C hC b hA hb⟩
  | @tail C L L' h ih =>
    rintro ⟨h1, h2, h3, h4⟩
    refine ⟨C.loc w w' (fun b hb => ho b fun hA => h3 A h.mem b hb hA) h1, fun b hb => by rw [hs]; exact h2 b hb, fun D hD b hb hb' => ?_, ih h4⟩
    rcases h.mem' D hD with rfl | hD
    · exact h3 A h.mem b hb (hf b hb')
    · exact h3 D hD b hb hb'
theorem H.swapped {w0 w w' : World} {A A' : Asrt} {L L' : List Asrt} (hL : H w0 L w) (h : Swap A A' L L') (hs : w'.heap.size = w.heap.size) (hos : w'.os = w.os) (ht : w'.tape = w.tape) (hou : w'.output = w.output)
    (hf : ∀ b, A'.foot b → A.foot b) (ho : ∀ b, ¬ A.foot b → w'.heap[b]? = w.heap[b]?) (hk : A'.ok w') : H w0 L' w' := by
  refine ⟨⟨hos.trans hL.1.os, ht.trans hL.1.tape, hou.trans hL.1.output, by rw [hs]; exact hL.1.size, fun k hk' => ?_⟩, hL.2.swapped hs hf ho hk h⟩
  rw [ho k fun hA => by have := ((hL.2.in_ A h.mem).2 k hA).1; omega]
  exact hL.1.block k hk'
/-- A new block. -/
theorem H.alloc {w0 w : World} {L : List Asrt} (h : H w0 L w) (cs : List Value) (e : TypeId) : H w0 (pt w.heap.size e cs :: L) (w.alloc (.cells cs.toArray e)) := by
  have hb : Below w.heap.size w (w.alloc (.cells cs.toArray e)) := below_alloc w _
  have h' := h.below hb
  refine ⟨h'.1, heap_alloc_new w _, fun b hb' => ?_, fun C hC b hb' hc => ?_, h'.2⟩
  · have hb'' : b = w.heap.size := hb'
    subst hb''
    exact ⟨h.1.size, by simp⟩
  · have hb'' : b = w.heap.size := hb'
    subst hb''
    have := ((h.2.in_ C hC).2 _ hc).2
    omega
end Go.Proofs.Ytbofagfilohhfaa
