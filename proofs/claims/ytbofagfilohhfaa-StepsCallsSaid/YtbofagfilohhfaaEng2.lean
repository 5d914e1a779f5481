/- The program logic: regions, branches, blocks, loops, calls. Over any program. No condition. -/
import Derived.Test.YtbofagfilohhfaaEng
import Derived.Deep.LoopGhost
import Derived.OrdersIn
import Derived.RangeFuncIn
namespace Go.Proofs.Ytbofagfilohhfaa
set_option maxRecDepth 20000
open Go.RowKit

/-! ### The machine's way, in a frame of a function or of a round -/
def fen (n : Fr) : Fence := match n.ro with | none => Fence.wide | some l => Fence.wide.inRound l
/-- No operation puts a call off. -/
def plainOps (l : List Oper) : Bool := l.all fun o => match o.op with | .defer _ => false | _ => true
def fitsR (n : Fr) (l : List Oper) : Bool := match n.ro with | none => true | some _ => plainOps l
def wpF (n : Fr) (P : Program) (c : Code) (R : Exit → Act → World → Prop) (a : Act) (w : World) : Prop := c.wpIn (fen n) 0 P R a w
theorem rowsIn_wide {n : Nat} {P : Program} {row : String} {args : Array Value} {w : World} {R : Value → World → Prop} (h : Rows P row args w R) : RowsIn Fence.wide n P row args w R :=
  fun c cs _ => let ⟨v, w', r, s⟩ := h c cs; ⟨v, w', r, stepsIn_wide.2 s⟩
theorem opIn_of {P : Program} {l m : Nat} {o : Oper} {a : Act} {w : World} {K : Act → World → Prop} {Q : Exit → Act → World → Prop} (hd : ∀ c, o.op ≠ .defer c) (h : o.wp P a w K Q) : o.wpIn (Fence.wide.inRound l) m P a w K Q := by
  refine ⟨fun _ _ => trivial, ?_⟩
  rw [Oper.semAt_eq _ _ _ hd]
  unfold Oper.wp at h
  generalize (execOp a.eval o).run P w = r at h ⊢
  cases r with
  | ok x w' =>
    cases x with
    | enter f args => exact ⟨fun h => by simp [Fence.wide] at h, (callsIn_wide (n := m - 1)).2 h⟩
    | row row args => exact ⟨fun h => by simp [Fence.wide] at h, rowsIn_wide h⟩
    | round _ _ _ _ _ => exact h.elim
    | _ => exact h
  | halt x w' => cases x <;> exact h
theorem opsIn_of {P : Program} {l m : Nat} {ops : Array Oper} {Q : Exit → Act → World → Prop} (hp : plainOps ops.toList = true) (hQ : ¬ LetsOut Q) : ∀ (idx : List Nat) (a : Act) (w : World), wpOps P ops Q idx a w → wpOpsIn (Fence.wide.inRound l) m P ops Q idx a w
  | [], _, _, h => h
  | i :: rest, a, w, h => by
    unfold wpOps at h
    unfold wpOpsIn
    cases ho : ops[i]? with
    | none => simp only [ho] at h ⊢; exact opsIn_of hp hQ rest a w h
    | some o =>
      simp only [ho] at h ⊢
      have hd : ∀ c, o.op ≠ .defer c := fun c hc => by
        have := List.all_eq_true.1 hp o (by rw [Array.mem_toList_iff]; exact Array.mem_of_getElem? ho)
        rw [hc] at this; cases this
      by_cases hw : Region.wanted o (yielded ops a.tmps) = true
      · rw [if_pos hw] at h ⊢
        rcases h with h | h
        · exact Oper.wpIn_mono (fun a w h => opsIn_of hp hQ rest a w h) (opIn_of hd h)
        · exact absurd h.2 hQ
      · rw [if_neg hw] at h ⊢
        exact ⟨fun _ _ => trivial, opsIn_of hp hQ rest _ _ h⟩
theorem wpF_region {P : Program} {n : Fr} {id : Nat} {ops : Array Oper} {Q : Exit → Act → World → Prop} {a : Act} {w : World} (hf : fitsR n ops.toList = true) (hQ : ¬ LetsOut Q) (h : wpOps P ops Q (List.range ops.size) a w) : wpF n P (.region id ops false) Q a w := by
  obtain ⟨n, ro, ds⟩ := n
  cases ro with
  | none => exact wpIn_wide.2 (wp_region h)
  | some l => exact wpIn_region (opsIn_of hf hQ _ _ _ h)
theorem wpF_any {P : Program} {n : Fr} {id : Nat} {ops : Array Oper} {Q : Exit → Act → World → Prop} {a : Act} {w : World} (hf : fitsR n ops.toList = true) (hQ : ¬ LetsOut Q) (hm : P.follows .mixedOrders = true)
    (h : wpAny P .any ops Q ops.size (Array.replicate ops.size false) a { w with drawn := w.drawn + 1 }) : wpF n P (.region id ops true) Q a w := by
  have key : ∀ t, wpOps P ops Q (Region.schedule (P.follows .mixedOrders) ops t) a { w with drawn := w.drawn + 1 } := fun t => by
    simp only [Region.schedule, hm, Bool.true_or, if_true]
    exact wpAny_sound ops.size t _ a _ h
  obtain ⟨n, ro, ds⟩ := n
  cases ro with
  | none => exact wpIn_wide.2 (wp_region_draw key)
  | some l => exact wpIn_region_draw fun t => opsIn_of hf hQ _ _ _ (key t)
abbrev Post := Env → List Asrt → Prop
def liftQ (n : Fr) (w0 : World) (Q : Exit → Post) : Exit → Act → World → Prop
  | .normal, a, w => ∃ E L, a = actOf n E ∧ H w0 L w ∧ Q .normal E L
  | .exit id, a, w => ∃ E L, a = actOf n E ∧ H w0 L w ∧ Q (.exit id) E L
  | .ret, a, w => ∃ E L, a = actOf n E ∧ H w0 L w ∧ Q .ret E L
  | _, _, _ => False
theorem liftQ_in {n : Fr} {w0 : World} {Q : Exit → Post} : ¬ LetsOut (liftQ n w0 Q) := fun ⟨_, _, h⟩ => h
def WC (P : Program) (n : Fr) (w0 : World) (c : Code) (Q : Exit → Post) (E : Env) (L : List Asrt) : Prop := ∀ w, H w0 L w → wpF n P c (liftQ n w0 Q) (actOf n E) w
def WL (P : Program) (n : Fr) (w0 : World) (ops : Array Oper) (K : Post) (l : List Oper) (E : Env) (L : List Asrt) : Prop :=
  ∀ w, H w0 L w → ∀ Q : Exit → Act → World → Prop, (∀ E' L' w', H w0 L' w' → K E' L' → Q .normal (actOf n E') w') → wpList P ops Q l (actOf n E) w
def seqQ (K : Post) (Q : Exit → Post) : Exit → Post
  | .normal => K
  | e => Q e
def blockQ (id : Nat) (Q : Exit → Post) : Exit → Post
  | .exit i => cond (Nat.beq i id) (Q .normal) (Q (.exit i))
  | e => Q e
theorem wpMono {n : Fr} {P : Program} {c : Code} {Q Q' : Exit → Act → World → Prop} {a : Act} {w : World} (hq : ∀ e a w, Q e a w → Q' e a w) (h : wpF n P c Q a w) : wpF n P c Q' a w := wpIn_mono h hq
open Classical in
theorem wpIn_loop_ghost {F : Fence} {n : Nat} {P : Program} {Q : Exit → Act → World → Prop} {a : Act} {w : World} {c : Code} (I : Nat → Act → World → Prop) (n₀ : Nat) (h₀ : I n₀ a w)
    (round : ∀ k a w, I k a w → c.wpIn F n P (Exit.then (fun a' w' => ∃ k', k' < k ∧ I k' a' w') Q) a w) : (Code.loop c).wpIn F n P Q a w := by
  refine wpIn_loop (fun a w => ∃ k, I k a w) (fun a w => leastOf (fun k => I k a w)) ⟨n₀, h₀⟩ ?_
  intro a w hI
  refine wpIn_mono (round _ a w (leastOf_spec hI).1) ?_
  intro e a' w' hq
  cases e with
  | normal =>
    obtain ⟨k', hlt, hI'⟩ := hq
    exact show (∃ k, I k a' w') ∧ leastOf (fun k => I k a' w') < leastOf (fun k => I k a w) from ⟨⟨k', hI'⟩, Nat.lt_of_le_of_lt ((leastOf_spec ⟨k', hI'⟩).2 k' hI') hlt⟩
  | _ => exact hq
section
variable {P : Program} {n : Fr} {w0 : World} {Q : Exit → Post} {E : Env} {L : List Asrt}
theorem WC.seq {x y : Code} (h : ∀ K : Post, (∀ E L, WC P n w0 y Q E L → K E L) → WC P n w0 x (seqQ K Q) E L) : WC P n w0 (.seq x y) Q E L := by
  intro w hw
  refine wpIn_seq (wpIn_mono (h (fun E L => WC P n w0 y Q E L) (fun _ _ h => h) w hw) ?_)
  intro e a w' hq
  cases e <;> first
    | exact hq
    | (obtain ⟨E', L', rfl, hH, hK⟩ := hq; exact hK w' hH)
theorem WC.skip (h : Q .normal E L) : WC P n w0 .skip Q E L := fun _ hw => wpIn_skip ⟨_, _, rfl, hw, h⟩
theorem WC.ret (h : Q .ret E L) : WC P n w0 .ret Q E L := fun _ hw => wpIn_ret ⟨_, _, rfl, hw, h⟩
theorem WC.exit {id : Nat} (h : Q (.exit id) E L) : WC P n w0 (.exit id) Q E L := fun _ hw => wpIn_exit ⟨_, _, rfl, hw, h⟩
theorem WC.cond_true {c : Operand} {x y : Code} (hc : Ev n E c (.bool true)) (h : WC P n w0 x Q E L) : WC P n w0 (.cond c x y) Q E L := fun w hw => wpIn_cond_true hc (h w hw)
theorem WC.cond_false {c : Operand} {x y : Code} (hc : Ev n E c (.bool false)) (h : WC P n w0 y Q E L) : WC P n w0 (.cond c x y) Q E L := fun w hw => wpIn_cond_false hc (h w hw)
theorem WC.cond_split {c : Operand} {x y : Code} {b : Bool} (hc : Ev n E c (.bool b)) (h : b = true → WC P n w0 x Q E L) (h' : b = false → WC P n w0 y Q E L) : WC P n w0 (.cond c x y) Q E L := by
  cases b
  · exact WC.cond_false hc (h' rfl)
  · exact WC.cond_true hc (h rfl)
theorem WC.block {id : Nat} {c : Code} (h : WC P n w0 c (blockQ id Q) E L) : WC P n w0 (.block id c) Q E L := by
  intro w hw
  refine wpIn_block (wpIn_mono (h w hw) ?_)
  intro e a w' hq
  cases e with
  | exit i =>
    obtain ⟨E', L', rfl, hH, hK⟩ := hq
    show if i = id then _ else _
    by_cases hi : i = id
    · subst hi
      rw [if_pos rfl]
      have : Nat.beq i i = true := Nat.beq_refl i
      simp only [blockQ, this, cond_true] at hK
      exact ⟨E', L', rfl, hH, hK⟩
    · rw [if_neg hi]
      have : Nat.beq i id = false := by
        cases hb : Nat.beq i id with
        | false => rfl
        | true => exact absurd (Nat.eq_of_beq_eq_true hb) hi
      simp only [blockQ, this, cond_false] at hK
      exact ⟨E', L', rfl, hH, hK⟩
  | _ => exact hq
/-- The list may be weakened. -/
theorem WC.sub {c : Code} {L' : List Asrt} (hs : L'.Sublist L) (h : WC P n w0 c Q E L') : WC P n w0 c Q E L := fun w hw => h w (hw.sub hs)
theorem WC.perm {c : Code} {L' : List Asrt} (hs : L.Perm L') (h : WC P n w0 c Q E L') : WC P n w0 c Q E L := fun w hw => h w (hw.perm hs)
theorem WC.loop {c : Code} {γ : Type} (m : Nat) (VI : γ → List (Nat × Value)) (LI : γ → List Asrt) (pre : γ → Prop) (μ : γ → Nat) (g : γ) (hE : Agree E (VI g)) (hL : (LI g).Sublist L) (hp : pre g)
    (round : ∀ g U, pre g → WC P n w0 c (seqQ (fun E' L' => ∃ g', Out m E' E ∧ Agree E' (VI g') ∧ (LI g').Sublist L' ∧ pre g' ∧ μ g' < μ g) Q) (sets (hav m E U) (VI g)) (LI g)) : WC P n w0 (.loop c) Q E L := by
  intro w hw
  refine wpIn_loop_ghost (Q := liftQ n w0 Q) (fun k a w => ∃ g U, μ g = k ∧ a = actOf n (sets (hav m E U) (VI g)) ∧ H w0 (LI g) w ∧ pre g) (μ g) ⟨g, E, rfl, ?_, hw.sub hL, hp⟩ ?_
  · rw [hav_out (Out.refl m E), sets_same hE]
  · rintro k a w' ⟨g, U, rfl, rfl, hH, hp'⟩
    refine wpIn_mono (round g U hp' w' hH) ?_
    intro e a' w'' hq
    cases e with
    | normal =>
      obtain ⟨E', L', rfl, hH', g', ho, ha, hs, hp'', hm⟩ := hq
      exact ⟨μ g', hm, g', E', rfl, by rw [hav_out ho, sets_same ha], hH'.sub hs, hp''⟩
    | _ => exact hq
theorem WC.loop2 {c : Code} {α β : Type} (m : Nat) (VI : α → β → List (Nat × Value)) (LI : α → β → List Asrt) (pre : α → β → Prop) (μ : α → β → Nat) (g0 : α) (g1 : β) (hE : Agree E (VI g0 g1)) (hL : (LI g0 g1).Sublist L) (hp : pre g0 g1)
    (round : ∀ h0 h1 U, pre h0 h1 → WC P n w0 c (seqQ (fun E' L' => ∃ g0 g1, Out m E' E ∧ Agree E' (VI g0 g1) ∧ (LI g0 g1).Sublist L' ∧ pre g0 g1 ∧ μ g0 g1 < μ h0 h1) Q) (sets (hav m E U) (VI h0 h1)) (LI h0 h1)) : WC P n w0 (.loop c) Q E L :=
  WC.loop (γ := α × β) m (fun g => VI g.1 g.2) (fun g => LI g.1 g.2) (fun g => pre g.1 g.2) (fun g => μ g.1 g.2) (g0, g1) hE hL hp fun g U hpre w hw => wpMono (by
    intro e a w' hq
    cases e with
    | normal => obtain ⟨E', L', rfl, hH, g0, g1, h⟩ := hq; exact ⟨E', L', rfl, hH, (g0, g1), h⟩
    | _ => exact hq) (round g.1 g.2 U hpre w hw)
theorem WC.loop3 {c : Code} {α β γ : Type} (m : Nat) (VI : α → β → γ → List (Nat × Value)) (LI : α → β → γ → List Asrt) (pre : α → β → γ → Prop) (μ : α → β → γ → Nat) (g0 : α) (g1 : β) (g2 : γ) (hE : Agree E (VI g0 g1 g2)) (hL : (LI g0 g1 g2).Sublist L) (hp : pre g0 g1 g2)
    (round : ∀ h0 h1 h2 U, pre h0 h1 h2 → WC P n w0 c (seqQ (fun E' L' => ∃ g0 g1 g2, Out m E' E ∧ Agree E' (VI g0 g1 g2) ∧ (LI g0 g1 g2).Sublist L' ∧ pre g0 g1 g2 ∧ μ g0 g1 g2 < μ h0 h1 h2) Q) (sets (hav m E U) (VI h0 h1 h2)) (LI h0 h1 h2)) : WC P n w0 (.loop c) Q E L :=
  WC.loop (γ := α × β × γ) m (fun g => VI g.1 g.2.1 g.2.2) (fun g => LI g.1 g.2.1 g.2.2) (fun g => pre g.1 g.2.1 g.2.2) (fun g => μ g.1 g.2.1 g.2.2) (g0, g1, g2) hE hL hp fun g U hpre w hw => wpMono (by
    intro e a w' hq
    cases e with
    | normal => obtain ⟨E', L', rfl, hH, g0, g1, g2, h⟩ := hq; exact ⟨E', L', rfl, hH, (g0, g1, g2), h⟩
    | _ => exact hq) (round g.1 g.2.1 g.2.2 U hpre w hw)
theorem WC.loop4 {c : Code} {α β γ δ : Type} (m : Nat) (VI : α → β → γ → δ → List (Nat × Value)) (LI : α → β → γ → δ → List Asrt) (pre : α → β → γ → δ → Prop) (μ : α → β → γ → δ → Nat) (g0 : α) (g1 : β) (g2 : γ) (g3 : δ) (hE : Agree E (VI g0 g1 g2 g3)) (hL : (LI g0 g1 g2 g3).Sublist L) (hp : pre g0 g1 g2 g3)
    (round : ∀ h0 h1 h2 h3 U, pre h0 h1 h2 h3 → WC P n w0 c (seqQ (fun E' L' => ∃ g0 g1 g2 g3, Out m E' E ∧ Agree E' (VI g0 g1 g2 g3) ∧ (LI g0 g1 g2 g3).Sublist L' ∧ pre g0 g1 g2 g3 ∧ μ g0 g1 g2 g3 < μ h0 h1 h2 h3) Q) (sets (hav m E U) (VI h0 h1 h2 h3)) (LI h0 h1 h2 h3)) : WC P n w0 (.loop c) Q E L :=
  WC.loop (γ := α × β × γ × δ) m (fun g => VI g.1 g.2.1 g.2.2.1 g.2.2.2) (fun g => LI g.1 g.2.1 g.2.2.1 g.2.2.2) (fun g => pre g.1 g.2.1 g.2.2.1 g.2.2.2) (fun g => μ g.1 g.2.1 g.2.2.1 g.2.2.2) (g0, g1, g2, g3) hE hL hp fun g U hpre w hw => wpMono (by
    intro e a w' hq
    cases e with
    | normal => obtain ⟨E', L', rfl, hH, g0, g1, g2, g3, h⟩ := hq; exact ⟨E', L', rfl, hH, (g0, g1, g2, g3), h⟩
    | _ => exact hq) (round g.1 g.2.1 g.2.2.1 g.2.2.2 U hpre w hw)
theorem WC.loop5 {c : Code} {α β γ δ ε : Type} (m : Nat) (VI : α → β → γ → δ → ε → List (Nat × Value)) (LI : α → β → γ → δ → ε → List Asrt) (pre : α → β → γ → δ → ε → Prop) (μ : α → β → γ → δ → ε → Nat) (g0 : α) (g1 : β) (g2 : γ) (g3 : δ) (g4 : ε) (hE : Agree E (VI g0 g1 g2 g3 g4)) (hL : (LI g0 g1 g2 g3 g4).Sublist L) (hp : pre g0 g1 g2 g3 g4)
    (round : ∀ h0 h1 h2 h3 h4 U, pre h0 h1 h2 h3 h4 → WC P n w0 c (seqQ (fun E' L' => ∃ g0 g1 g2 g3 g4, Out m E' E ∧ Agree E' (VI g0 g1 g2 g3 g4) ∧ (LI g0 g1 g2 g3 g4).Sublist L' ∧ pre g0 g1 g2 g3 g4 ∧ μ g0 g1 g2 g3 g4 < μ h0 h1 h2 h3 h4) Q) (sets (hav m E U) (VI h0 h1 h2 h3 h4)) (LI h0 h1 h2 h3 h4)) : WC P n w0 (.loop c) Q E L :=
  WC.loop (γ := α × β × γ × δ × ε) m (fun g => VI g.1 g.2.1 g.2.2.1 g.2.2.2.1 g.2.2.2.2) (fun g => LI g.1 g.2.1 g.2.2.1 g.2.2.2.1 g.2.2.2.2) (fun g => pre g.1 g.2.1 g.2.2.1 g.2.2.2.1 g.2.2.2.2) (fun g => μ g.1 g.2.1 g.2.2.1 g.2.2.2.1 g.2.2.2.2) (g0, g1, g2, g3, g4) hE hL hp fun g U hpre w hw => wpMono (by
    intro e a w' hq
    cases e with
    | normal => obtain ⟨E', L', rfl, hH, g0, g1, g2, g3, g4, h⟩ := hq; exact ⟨E', L', rfl, hH, (g0, g1, g2, g3, g4), h⟩
    | _ => exact hq) (round g.1 g.2.1 g.2.2.1 g.2.2.2.1 g.2.2.2.2 U hpre w hw)
/-- A region in the order of its text. -/
theorem WC.region {id : Nat} {l : List Oper} (hf : fitsR n l = true) (h : WL P n w0 l.toArray (Q .normal) l E L) : WC P n w0 (.region id l.toArray false) Q E L :=
  fun w hw => wpF_region (by simpa using hf) liftQ_in (by
    rw [List.range_eq_range', ← Array.length_toList, wpOps_eq_wpList l.toArray.toList 0 (by simp)]
    simpa using h w hw _ fun _ _ _ hH hK => ⟨_, _, rfl, hH, hK⟩)
end
/-! ### Operations -/
/-- The operation comes up next and is wanted. -/
def WL1 (P : Program) (n : Fr) (w0 : World) (ops : Array Oper) (K : Post) (o : Oper) (rest : List Oper) (E : Env) (L : List Asrt) : Prop :=
  ∀ w, H w0 L w → ∀ Q : Exit → Act → World → Prop, (∀ E' L' w', H w0 L' w' → K E' L' → Q .normal (actOf n E') w') →
    ∀ K' : Act → World → Prop, (∀ a w, wpList P ops Q rest a w → K' a w) → o.wp P (actOf n E) w K' Q
/-- The operation yields this value, whatever the world of the class, and leaves the world alone. -/
def Gives (P : Program) (n : Fr) (C : World → Prop) (o : Oper) (E : Env) (v : Value) : Prop := ∀ w, C w → (execOp (actOf n E).eval o).run P w = .ok (.value v) w
section
variable {P : Program} {n : Fr} {w0 : World} {ops : Array Oper} {lops : List Oper} {K : Post} {o : Oper} {rest : List Oper} {E : Env} {L : List Asrt} {C : World → Prop}
theorem WL.nil (h : K E L) : WL P n w0 ops K [] E L := fun _ hw _ hQ => hQ _ _ _ hw h
theorem WL.want (hg : o.guard = none) (h : WL1 P n w0 ops K o rest E L) : WL P n w0 ops K (o :: rest) E L :=
  fun w hw Q hQ => wpList_plain hg fun K' hK => h w hw Q hQ K' hK
theorem yielded_at {j d : Nat} {b : Bool} (hd : (lops[j]?).bind (·.dst) = some d) (hn : Nat.blt d n.n = true) (hE : E d = .bool b) : yielded lops.toArray (actOf n E).tmps j = some b := by
  have h3 : d < n.n := Nat.lt_of_not_le (fun h4 => by rw [Nat.blt] at hn; have := Nat.le_of_ble_eq_true hn; omega)
  unfold yielded
  rw [List.getElem?_toArray, hd, Option.bind_some, actOf_get, if_pos h3, hE]
theorem WL.wantG {j d : Nat} {b : Bool} (hg : o.guard = some (j, b)) (hd : (lops[j]?).bind (·.dst) = some d) (hn : Nat.blt d n.n = true) (hE : E d = .bool b) (h : WL1 P n w0 lops.toArray K o rest E L) :
    WL P n w0 lops.toArray K (o :: rest) E L := fun w hw Q hQ => wpList_step fun K' hK => by
  rw [if_pos (by unfold Region.wanted; rw [hg]; simp [yielded_at hd hn hE])]
  exact h w hw Q hQ K' hK
theorem WL.skipG {j d t : Nat} {b b' : Bool} (hg : o.guard = some (j, b')) (hd : (lops[j]?).bind (·.dst) = some d) (hn : Nat.blt d n.n = true) (hE : E d = .bool b) (hne : (b == b') = false) (ht : o.dst = some t) (h : WL P n w0 lops.toArray K rest (E.set t undef) L) :
    WL P n w0 lops.toArray K (o :: rest) E L := fun w hw Q hQ => wpList_step fun K' hK => by
  have hne' : b ≠ b' := by simpa using hne
  rw [if_neg (by unfold Region.wanted; rw [hg]; simp [yielded_at hd hn hE, hne'])]
  refine hK _ _ ?_
  rw [actOf_put, ht]
  exact h w hw Q hQ
theorem yielded_undef {j d : Nat} (hd : (lops[j]?).bind (·.dst) = some d) (hn : Nat.blt d n.n = true) (hE : E d = undef) : yielded lops.toArray (actOf n E).tmps j = none := by
  have h3 : d < n.n := Nat.lt_of_not_le (fun h4 => by rw [Nat.blt] at hn; have := Nat.le_of_ble_eq_true hn; omega)
  unfold yielded
  rw [List.getElem?_toArray, hd, Option.bind_some, actOf_get, if_pos h3, hE]
  rfl
theorem WL.skipU {j d t : Nat} {b' : Bool} (hg : o.guard = some (j, b')) (hd : (lops[j]?).bind (·.dst) = some d) (hn : Nat.blt d n.n = true) (hE : E d = undef) (ht : o.dst = some t) (h : WL P n w0 lops.toArray K rest (E.set t undef) L) :
    WL P n w0 lops.toArray K (o :: rest) E L := fun w hw Q hQ => wpList_step fun K' hK => by
  rw [if_neg (by unfold Region.wanted; rw [hg]; simp [yielded_undef hd hn hE])]
  refine hK _ _ ?_
  rw [actOf_put, ht]
  exact h w hw Q hQ
theorem WL1.give {d : Nat} {v : Value} (hd : o.dst = some d) (h : Gives P n (H w0 L) o E v) (k : WL P n w0 ops K rest (E.set d v) L) : WL1 P n w0 ops K o rest E L := fun w hw Q hQ K' hK => by
  unfold Oper.wp
  rw [h w hw]
  show K' _ _
  rw [actOf_put, hd]
  exact hK _ _ (k w hw Q hQ)
theorem WL1.giveD {d : Nat} {p : Prop} [Decidable p] (hd : o.dst = some d) (h : Gives P n (H w0 L) o E (.bool (decide p))) (k : p → WL P n w0 ops K rest (E.set d (.bool true)) L) (k' : ¬ p → WL P n w0 ops K rest (E.set d (.bool false)) L) : WL1 P n w0 ops K o rest E L := by
  by_cases hp : p
  · rw [decide_eq_true hp] at h; exact WL1.give hd h (k hp)
  · rw [decide_eq_false hp] at h; exact WL1.give hd h (k' hp)
/-! the values of operations -/
theorem g_move {x : Operand} {v : Value} (ho : o.op = .move x) (hx : Ev n E x v) : Gives P n C o E v := fun w _ => by
  unfold Ev at hx; unfold execOp; simp only [ho, hx]; rfl
theorem g_assign {x : Operand} {v : Value} (ho : o.op = .assign x) (hx : Ev n E x v) : Gives P n C o E v := fun w _ => by
  unfold Ev at hx; unfold execOp; simp only [ho, hx]; rfl
theorem g_pickT {c x y : Operand} {v : Value} (ho : o.op = .pick c x y) (hc : Ev n E c (.bool true)) (hx : Ev n E x v) : Gives P n C o E v := fun w _ => by
  unfold Ev at hc hx; unfold execOp; simp only [ho, hc, hx]; rfl
theorem g_pickF {c x y : Operand} {v : Value} (ho : o.op = .pick c x y) (hc : Ev n E c (.bool false)) (hx : Ev n E y v) : Gives P n C o E v := fun w _ => by
  unfold Ev at hc hx; unfold execOp; simp only [ho, hc, hx]; rfl
theorem g_not {t : TypeId} {x : Operand} {b : Bool} (ho : o.op = .unOp .not t x) (hx : Ev n E x (.bool b)) : Gives P n C o E (.bool !b) := fun w _ => by
  unfold Ev at hx; unfold execOp; simp only [ho, hx]; rfl
theorem g_notT {t : TypeId} {x : Operand} (ho : o.op = .unOp .not t x) (hx : Ev n E x (.bool true)) : Gives P n C o E (.bool false) := g_not ho hx
theorem g_notF {t : TypeId} {x : Operand} (ho : o.op = .unOp .not t x) (hx : Ev n E x (.bool false)) : Gives P n C o E (.bool true) := g_not ho hx
theorem g_extract {x : Operand} {i : Nat} {vs : Array Value} {v : Value} (ho : o.op = .extract x i) (hx : Ev n E x (.tuple vs)) (hv : vs[i]? = some v) : Gives P n C o E v := fun w _ => by
  unfold Ev at hx; unfold execOp; simp only [ho, hx, Instr.extract, hv]; rfl
section
variable {t t' : TypeId} {x y : Operand} {k : IntKind} {a b r : Int} {p : Bool}
theorem g_add (ho : o.op = .binOp .add t x y t') (hx : Ev n E x (.int k a)) (hy : Ev n E y (.int k b)) (hr : k.wrap (a + b) = r) : Gives P n C o E (.int k r) := fun w _ => by
  unfold Ev at hx hy; unfold execOp; simp [ho, hx, hy, eqGuard, binOp, Op.intArith, hr]
theorem g_sub (ho : o.op = .binOp .sub t x y t') (hx : Ev n E x (.int k a)) (hy : Ev n E y (.int k b)) (hr : k.wrap (a - b) = r) : Gives P n C o E (.int k r) := fun w _ => by
  unfold Ev at hx hy; unfold execOp; simp [ho, hx, hy, eqGuard, binOp, Op.intArith, hr]
theorem g_mul (ho : o.op = .binOp .mul t x y t') (hx : Ev n E x (.int k a)) (hy : Ev n E y (.int k b)) (hr : k.wrap (a * b) = r) : Gives P n C o E (.int k r) := fun w _ => by
  unfold Ev at hx hy; unfold execOp; simp [ho, hx, hy, eqGuard, binOp, Op.intArith, hr]
theorem g_quo (ho : o.op = .binOp .quo t x y t') (hx : Ev n E x (.int k a)) (hy : Ev n E y (.int k b)) (h0 : b ≠ 0) (hr : k.wrap (a.tdiv b) = r) : Gives P n C o E (.int k r) := fun w _ => by
  unfold Ev at hx hy; unfold execOp; simp [ho, hx, hy, eqGuard, binOp, Op.intDiv, hr, h0]
theorem g_rem (ho : o.op = .binOp .rem t x y t') (hx : Ev n E x (.int k a)) (hy : Ev n E y (.int k b)) (h0 : b ≠ 0) (hr : a.tmod b = r) : Gives P n C o E (.int k r) := fun w _ => by
  unfold Ev at hx hy; unfold execOp; simp [ho, hx, hy, eqGuard, binOp, Op.intDiv, hr, h0]
theorem g_xor (ho : o.op = .binOp .xor t x y t') (hx : Ev n E x (.int k a)) (hy : Ev n E y (.int k b)) (hr : k.wrap (BitVec.ofInt k.bits a ^^^ BitVec.ofInt k.bits b).toNat = r) : Gives P n C o E (.int k r) := fun w _ => by
  unfold Ev at hx hy; unfold execOp; subst hr; simp [ho, hx, hy, eqGuard, binOp, Op.intBits]
theorem g_and (ho : o.op = .binOp .and t x y t') (hx : Ev n E x (.int k a)) (hy : Ev n E y (.int k b)) (hr : k.wrap (BitVec.ofInt k.bits a &&& BitVec.ofInt k.bits b).toNat = r) : Gives P n C o E (.int k r) := fun w _ => by
  unfold Ev at hx hy; unfold execOp; subst hr; simp [ho, hx, hy, eqGuard, binOp, Op.intBits]
theorem g_shl {k' : IntKind} (ho : o.op = .binOp .shl t x y t') (hx : Ev n E x (.int k a)) (hy : Ev n E y (.int k' b)) (h0 : 0 ≤ b) (hr : k.wrap (a * 2 ^ (min b.toNat k.bits)) = r) : Gives P n C o E (.int k r) := fun w _ => by
  unfold Ev at hx hy; unfold execOp; simp [ho, hx, hy, eqGuard, binOp, Op.shift, hr, show ¬ b < 0 from by omega]
theorem g_shr {k' : IntKind} (ho : o.op = .binOp .shr t x y t') (hx : Ev n E x (.int k a)) (hy : Ev n E y (.int k' b)) (h0 : 0 ≤ b) (hr : a.fdiv (2 ^ (min b.toNat k.bits)) = r) : Gives P n C o E (.int k r) := fun w _ => by
  unfold Ev at hx hy; unfold execOp; simp [ho, hx, hy, eqGuard, binOp, Op.shift, hr, show ¬ b < 0 from by omega]
theorem g_lt (ho : o.op = .binOp .lss t x y t') (hx : Ev n E x (.int k a)) (hy : Ev n E y (.int k b)) (hr : decide (a < b) = p) : Gives P n C o E (.bool p) := fun w _ => by
  unfold Ev at hx hy; unfold execOp; simp [ho, hx, hy, eqGuard, binOp, Op.intCmp, hr]
theorem g_le (ho : o.op = .binOp .leq t x y t') (hx : Ev n E x (.int k a)) (hy : Ev n E y (.int k b)) (hr : decide (a ≤ b) = p) : Gives P n C o E (.bool p) := fun w _ => by
  unfold Ev at hx hy; unfold execOp; simp [ho, hx, hy, eqGuard, binOp, Op.intCmp, hr]
theorem g_gt (ho : o.op = .binOp .gtr t x y t') (hx : Ev n E x (.int k a)) (hy : Ev n E y (.int k b)) (hr : decide (b < a) = p) : Gives P n C o E (.bool p) := fun w _ => by
  unfold Ev at hx hy; unfold execOp; simp [ho, hx, hy, eqGuard, binOp, Op.intCmp, hr]
theorem g_ge (ho : o.op = .binOp .geq t x y t') (hx : Ev n E x (.int k a)) (hy : Ev n E y (.int k b)) (hr : decide (b ≤ a) = p) : Gives P n C o E (.bool p) := fun w _ => by
  unfold Ev at hx hy; unfold execOp; simp [ho, hx, hy, eqGuard, binOp, Op.intCmp, hr]
theorem g_eq (ho : o.op = .binOp .eql t x y t') (hx : Ev n E x (.int k a)) (hy : Ev n E y (.int k b)) (hr : decide (a = b) = p) : Gives P n C o E (.bool p) := fun w _ => by
  unfold Ev at hx hy; unfold execOp
  have : (a == b) = p := by rw [← hr]; rfl
  simp [ho, hx, hy, eqGuard, binOp, Op.intCmp, this]
theorem g_ne (ho : o.op = .binOp .neq t x y t') (hx : Ev n E x (.int k a)) (hy : Ev n E y (.int k b)) (hr : decide (a ≠ b) = p) : Gives P n C o E (.bool p) := fun w _ => by
  unfold Ev at hx hy; unfold execOp
  have : (a != b) = p := by rw [← hr]; simp [bne, BEq.beq]
  simp [ho, hx, hy, eqGuard, binOp, Op.intCmp, this]
theorem g_beq {a b : Bool} (ht : P.underlying t = some .bool) (ho : o.op = .binOp .eql t x y t') (hx : Ev n E x (.bool a)) (hy : Ev n E y (.bool b)) (hr : (a == b) = p) : Gives P n C o E (.bool p) := fun w _ => by
  unfold Ev at hx hy; unfold execOp
  simp [ho, hx, hy, eqGuard, binOp, run_equal_bool _ t a b ht, hr]
theorem g_bne {a b : Bool} (ht : P.underlying t = some .bool) (ho : o.op = .binOp .neq t x y t') (hx : Ev n E x (.bool a)) (hy : Ev n E y (.bool b)) (hr : (a != b) = p) : Gives P n C o E (.bool p) := fun w _ => by
  unfold Ev at hx hy; unfold execOp
  simp [ho, hx, hy, eqGuard, binOp, run_equal_bool _ t a b ht, ← hr, bne]
end
theorem g_conv {t t' : TypeId} {x : Operand} {k k' : IntKind} {a r : Int} {d : TypeDesc} (ht : P.underlying t = some d) (ht' : P.underlying t' = some (.int k')) (ho : o.op = .convert t t' x) (hx : Ev n E x (.int k a)) (hr : k'.wrap a = r) : Gives P n C o E (.int k' r) := fun w _ => by
  unfold Ev at hx; unfold execOp
  cases d <;> simp [ho, hx, convert, run_underlying ht, run_underlying ht', Conv.intToInt, hr]
theorem g_cap {t T : TypeId} {x : Operand} {A : Option Addr} {m c : Nat} (ho : o.op = .call { callee := .builtin .cap, args := #[x], argTypes := #[t] }) (hx : Ev n E x (.slice A m c)) (ht : P.underlying t = some (.slice T)) : Gives P n C o E (.int .i64 c) := fun w _ => by
  unfold Ev at hx; unfold execOp
  simp [ho, resolve, invoke, builtin, hx, Builtin.cap_, run_underlying ht, goInt]
theorem g_max {ts : Array TypeId} {x y : Operand} {k k' : IntKind} {a b r : Int} (ho : o.op = .call { callee := .builtin .max, args := #[x, y], argTypes := ts }) (hx : Ev n E x (.int k a)) (hy : Ev n E y (.int k' b)) (hr : (if a < b then b else a) = r) : Gives P n C o E (.int k r) := fun w _ => by
  unfold Ev at hx hy; unfold execOp
  simp [ho, resolve, invoke, builtin, hx, hy, Builtin.max_, Builtin.max2, hr]
theorem g_min {ts : Array TypeId} {x y : Operand} {k k' : IntKind} {a b r : Int} (ho : o.op = .call { callee := .builtin .min, args := #[x, y], argTypes := ts }) (hx : Ev n E x (.int k a)) (hy : Ev n E y (.int k' b)) (hr : (if b < a then b else a) = r) : Gives P n C o E (.int k r) := fun w _ => by
  unfold Ev at hx hy; unfold execOp
  simp [ho, resolve, invoke, builtin, hx, hy, Builtin.min_, Builtin.min2, hr]
theorem g_len {t T : TypeId} {x : Operand} {A : Option Addr} {m c : Nat} (ho : o.op = .call { callee := .builtin .len, args := #[x], argTypes := #[t] }) (hx : Ev n E x (.slice A m c)) (ht : P.underlying t = some (.slice T)) : Gives P n C o E (.int .i64 m) := fun w _ => by
  unfold Ev at hx; unfold execOp
  simp [ho, resolve, invoke, builtin, hx, Builtin.len_, run_underlying ht, goInt]
end
end Go.Proofs.Ytbofagfilohhfaa
