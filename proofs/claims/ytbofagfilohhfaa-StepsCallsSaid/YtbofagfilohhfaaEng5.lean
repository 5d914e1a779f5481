/- The program logic: regions whose order is open, makes, appends, aggregates, slices of slices. Over any program. No condition. -/
import Derived.Test.YtbofagfilohhfaaEng4
namespace Go.Proofs.Ytbofagfilohhfaa
set_option maxRecDepth 20000
open Go.RowKit

/-! ### Regions whose order is open: reads and calls that leave old memory alone -/
def WQ (P : Program) (n : Fr) (w0 : World) (ops : Array Oper) (K : Post) (l : List Oper) (E : Env) (L : List Asrt) : Prop :=
  ∀ Q : Act → Prop, (∀ E', K E' L → Q (actOf n E')) → wpQuiet P ops (H w0 L) Q l (actOf n E)
def WQ1 (P : Program) (n : Fr) (w0 : World) (ops : Array Oper) (K : Post) (o : Oper) (rest : List Oper) (E : Env) (L : List Asrt) : Prop :=
  ∀ Q : Act → Prop, (∀ E', K E' L → Q (actOf n E')) → ∀ K' : Act → Prop, (∀ a, wpQuiet P ops (H w0 L) Q rest a → K' a) → o.quiet P (actOf n E) (H w0 L) K'
section
variable {P : Program} {n : Fr} {w0 : World} {ops : Array Oper} {lops : List Oper} {K : Post} {o : Oper} {rest : List Oper} {E : Env} {L : List Asrt} {C : World → Prop} {Q : Exit → Post}
theorem wpF_quiet {ops : Array Oper} {C : World → Prop} {id : Nat} {Q : Exit → Act → World → Prop} {a : Act} {w : World} (hf : fitsR n ops.toList = true) (hQ : ¬ LetsOut Q) (hm : P.follows .mixedOrders = true) (hB : Region.lexB .any ops = true) (hC : C { w with drawn := w.drawn + 1 })
    (h : wpQuiet P ops C (fun a' => ∀ w', C w' → Q .normal a' w') ops.toList a) : wpF n P (.region id ops true) Q a w := by
  simp only [Region.lexB, Bool.and_eq_true] at hB
  refine wpF_any hf hQ hm (wpAny_of_quiet (Q := fun a' => ∀ w', C w' → Q .normal a' w') (fun _ w' hw' h => h w' hw') _ _ _ _ hC ?_)
  have := wpAnyQ_lex (C := C) (md := .any) hB.1 ops.toList 0 (Array.replicate ops.size false) a (by simp) (by simpa using hB.2) h
  simpa using this
theorem WC.quiet {id : Nat} {l : List Oper} (hf : fitsR n l = true) (hm : P.follows .mixedOrders = true) (hB : Region.lexB .any l.toArray = true) (h : WQ P n w0 l.toArray (Q .normal) l E L) : WC P n w0 (.region id l.toArray true) Q E L := fun w hw => by
  refine wpF_quiet (C := H w0 L) (by simpa using hf) liftQ_in hm hB hw.drew ?_
  have := h (fun a' => ∀ w', H w0 L w' → liftQ n w0 Q .normal a' w') fun E' hK w' hw' => ⟨_, _, rfl, hw', hK⟩
  simpa using this
theorem WQ.nil (h : K E L) : WQ P n w0 ops K [] E L := fun _ hQ => hQ _ h
theorem WQ.want (hg : o.guard = none) (h : WQ1 P n w0 ops K o rest E L) : WQ P n w0 ops K (o :: rest) E L := fun Q hQ => wpQuiet_step fun K' hK => by
  rw [if_pos (by simp [Region.wanted, hg])]
  exact h Q hQ K' hK
theorem WQ.wantG {j d : Nat} {b : Bool} (hg : o.guard = some (j, b)) (hd : (lops[j]?).bind (·.dst) = some d) (hn : Nat.blt d n.n = true) (hE : E d = .bool b) (h : WQ1 P n w0 lops.toArray K o rest E L) :
    WQ P n w0 lops.toArray K (o :: rest) E L := fun Q hQ => wpQuiet_step fun K' hK => by
  rw [if_pos (by unfold Region.wanted; rw [hg]; simp [yielded_at hd hn hE])]
  exact h Q hQ K' hK
theorem WQ.skipG {j d t : Nat} {b b' : Bool} (hg : o.guard = some (j, b')) (hd : (lops[j]?).bind (·.dst) = some d) (hn : Nat.blt d n.n = true) (hE : E d = .bool b) (hne : (b == b') = false) (ht : o.dst = some t) (h : WQ P n w0 lops.toArray K rest (E.set t undef) L) :
    WQ P n w0 lops.toArray K (o :: rest) E L := fun Q hQ => wpQuiet_step fun K' hK => by
  have hne' : b ≠ b' := by simpa using hne
  rw [if_neg (by unfold Region.wanted; rw [hg]; simp [yielded_at hd hn hE, hne'])]
  refine hK _ ?_
  rw [actOf_put, ht]
  exact h Q hQ
theorem WQ.skipU {j d t : Nat} {b' : Bool} (hg : o.guard = some (j, b')) (hd : (lops[j]?).bind (·.dst) = some d) (hn : Nat.blt d n.n = true) (hE : E d = undef) (ht : o.dst = some t) (h : WQ P n w0 lops.toArray K rest (E.set t undef) L) :
    WQ P n w0 lops.toArray K (o :: rest) E L := fun Q hQ => wpQuiet_step fun K' hK => by
  rw [if_neg (by unfold Region.wanted; rw [hg]; simp [yielded_undef hd hn hE])]
  refine hK _ ?_
  rw [actOf_put, ht]
  exact h Q hQ
theorem WQ1.give {d : Nat} {v : Value} (hd : o.dst = some d) (h : Gives P n (H w0 L) o E v) (k : WQ P n w0 ops K rest (E.set d v) L) : WQ1 P n w0 ops K o rest E L := fun Q hQ K' hK => by
  refine ⟨v, fun w hw => ?_, ?_⟩
  · unfold Oper.quietAt
    rw [h w hw]
    exact ⟨rfl, rfl⟩
  · rw [actOf_put, hd]
    exact hK _ (k Q hQ)
theorem WQ1.giveD {d : Nat} {p : Prop} [Decidable p] (hd : o.dst = some d) (h : Gives P n (H w0 L) o E (.bool (decide p))) (k : p → WQ P n w0 ops K rest (E.set d (.bool true)) L) (k' : ¬ p → WQ P n w0 ops K rest (E.set d (.bool false)) L) : WQ1 P n w0 ops K o rest E L := by
  by_cases hp : p
  · rw [decide_eq_true hp] at h; exact WQ1.give hd h (k hp)
  · rw [decide_eq_false hp] at h; exact WQ1.give hd h (k' hp)
theorem run_call {f : FuncId} {args : List Operand} {ts : Array TypeId} {vals : List Value} (ho : o.op = .call { callee := .value (.func f), args := args.toArray, argTypes := ts }) (hc : callable P f = true) (hv : Evs n E args vals) (w : World) :
    (execOp (actOf n E).eval o).run P w = .ok (.enter f vals.toArray) w := by
  unfold execOp
  have hm : args.toArray.map (actOf n E).eval = vals.toArray := by rw [List.map_toArray, hv.map]
  simp only [ho, resolve, Act.eval, Deferred.ofValue, Sem.run_bind, Sem.run_pure, Result.andThen_ok]
  rw [hm]
  simp only [Array.append_empty, Array.empty_append, invoke, run_callFunc hc]
theorem WQ1.callP {f : FuncId} {args : List Operand} {ts : Array TypeId} {d : Nat} {vals : List Value} {v : Value} (ho : o.op = .call { callee := .value (.func f), args := args.toArray, argTypes := ts }) (hd : o.dst = some d) (hc : callable P f = true) (hv : Evs n E args vals)
    (h : ∀ w, H w0 L w → Calls P f vals.toArray w fun e w' => e = .returned v ∧ Below w.heap.size w w') (k : WQ P n w0 ops K rest (E.set d v) L) : WQ1 P n w0 ops K o rest E L := fun Q hQ K' hK => by
  refine ⟨v, fun w hw => ?_, ?_⟩
  · unfold Oper.quietAt
    rw [run_call ho hc hv]
    exact ⟨rfl, (h w hw).mono fun _ _ ⟨he, hb⟩ => ⟨he, hw.below hb⟩⟩
  · rw [actOf_put, hd]
    exact hK _ (k Q hQ)
/-! ### The same, with a tail that writes -/
def WS (P : Program) (n : Fr) (w0 : World) (ops : Array Oper) (T : Post) (l : List Oper) (E : Env) (L : List Asrt) : Prop :=
  ∀ w, H w0 L w → ∀ Q : Act → Prop, (∀ E', T E' L → Q (actOf n E')) → wpStill P ops w Q l (actOf n E)
def WS1 (P : Program) (n : Fr) (w0 : World) (ops : Array Oper) (T : Post) (o : Oper) (rest : List Oper) (E : Env) (L : List Asrt) : Prop :=
  ∀ w, H w0 L w → ∀ Q : Act → Prop, (∀ E', T E' L → Q (actOf n E')) → ∀ K' : Act → Prop, (∀ a, wpStill P ops w Q rest a → K' a) → o.still P (actOf n E) w K'
theorem WS.nil (h : K E L) : WS P n w0 ops K [] E L := fun _ _ _ hQ => hQ _ h
theorem wpStill_step' {w : World} {Q : Act → Prop} {a : Act} (h : ∀ K' : Act → Prop, (∀ a, wpStill P ops w Q rest a → K' a) → if Region.wanted o (yielded ops a.tmps) then o.still P a w K' else K' (a.put o.dst undef)) : wpStill P ops w Q (o :: rest) a :=
  h _ fun _ h => h
theorem WS.want (hg : o.guard = none) (h : WS1 P n w0 ops K o rest E L) : WS P n w0 ops K (o :: rest) E L := fun w hw Q hQ => wpStill_step' fun K' hK => by
  rw [if_pos (by simp [Region.wanted, hg])]
  exact h w hw Q hQ K' hK
theorem WS.wantG {j d : Nat} {b : Bool} (hg : o.guard = some (j, b)) (hd : (lops[j]?).bind (·.dst) = some d) (hn : Nat.blt d n.n = true) (hE : E d = .bool b) (h : WS1 P n w0 lops.toArray K o rest E L) :
    WS P n w0 lops.toArray K (o :: rest) E L := fun w hw Q hQ => wpStill_step' fun K' hK => by
  rw [if_pos (by unfold Region.wanted; rw [hg]; simp [yielded_at hd hn hE])]
  exact h w hw Q hQ K' hK
theorem WS.skipG {j d t : Nat} {b b' : Bool} (hg : o.guard = some (j, b')) (hd : (lops[j]?).bind (·.dst) = some d) (hn : Nat.blt d n.n = true) (hE : E d = .bool b) (hne : (b == b') = false) (ht : o.dst = some t) (h : WS P n w0 lops.toArray K rest (E.set t undef) L) :
    WS P n w0 lops.toArray K (o :: rest) E L := fun w hw Q hQ => wpStill_step' fun K' hK => by
  have hne' : b ≠ b' := by simpa using hne
  rw [if_neg (by unfold Region.wanted; rw [hg]; simp [yielded_at hd hn hE, hne'])]
  refine hK _ ?_
  rw [actOf_put, ht]
  exact h w hw Q hQ
theorem WS.skipU {j d t : Nat} {b' : Bool} (hg : o.guard = some (j, b')) (hd : (lops[j]?).bind (·.dst) = some d) (hn : Nat.blt d n.n = true) (hE : E d = undef) (ht : o.dst = some t) (h : WS P n w0 lops.toArray K rest (E.set t undef) L) :
    WS P n w0 lops.toArray K (o :: rest) E L := fun w hw Q hQ => wpStill_step' fun K' hK => by
  rw [if_neg (by unfold Region.wanted; rw [hg]; simp [yielded_undef hd hn hE])]
  refine hK _ ?_
  rw [actOf_put, ht]
  exact h w hw Q hQ
theorem WS1.give {d : Nat} {v : Value} (hd : o.dst = some d) (h : Gives P n (H w0 L) o E v) (k : WS P n w0 ops K rest (E.set d v) L) : WS1 P n w0 ops K o rest E L := fun w hw Q hQ K' hK => by
  unfold Oper.still
  rw [h w hw, Oper.stillUpon_value, actOf_put, hd]
  exact hK _ (k w hw Q hQ)
theorem WS1.giveD {d : Nat} {p : Prop} [Decidable p] (hd : o.dst = some d) (h : Gives P n (H w0 L) o E (.bool (decide p))) (k : p → WS P n w0 ops K rest (E.set d (.bool true)) L) (k' : ¬ p → WS P n w0 ops K rest (E.set d (.bool false)) L) : WS1 P n w0 ops K o rest E L := by
  by_cases hp : p
  · rw [decide_eq_true hp] at h; exact WS1.give hd h (k hp)
  · rw [decide_eq_false hp] at h; exact WS1.give hd h (k' hp)
theorem WS1.callS {f : FuncId} {args : List Operand} {ts : Array TypeId} {d : Nat} {vals : List Value} {v : Value} (ho : o.op = .call { callee := .value (.func f), args := args.toArray, argTypes := ts }) (hd : o.dst = some d) (hc : callable P f = true) (hv : Evs n E args vals)
    (h : ∀ w, H w0 L w → Calls P f vals.toArray w fun e w' => e = .returned v ∧ w' = w) (k : WS P n w0 ops K rest (E.set d v) L) : WS1 P n w0 ops K o rest E L := fun w hw Q hQ K' hK => by
  unfold Oper.still
  rw [run_call ho hc hv]
  refine ⟨rfl, v, h w hw, ?_⟩
  rw [actOf_put, hd]
  exact hK _ (k w hw Q hQ)
/-! ### Calls that hand back new memory -/
theorem WL1.callN {f : FuncId} {args : List Operand} {ts : Array TypeId} {d : Option Tmp} {vals : List Value} {Φ : Value → List Asrt → Prop} (ho : o.op = .call { callee := .value (.func f), args := args.toArray, argTypes := ts }) (hd : o.dst = d) (hc : callable P f = true) (hv : Evs n E args vals)
    (h : ∀ w, H w0 L w → Calls P f vals.toArray w fun e w' => ∃ v M, e = .returned v ∧ H w M w' ∧ Φ v M) (k : ∀ v M, Φ v M → WL P n w0 ops K rest (E.put d v) (M ++ L)) : WL1 P n w0 ops K o rest E L :=
  WL1.call ho hd hc hv fun w hw => (h w hw).mono fun _ _ ⟨v, M, he, hH, hΦ⟩ => ⟨v, M ++ L, he, hw.join hH, k v M hΦ⟩
/-! ### Make -/
theorem made_cells (zc : Array Value) (m : Nat) : (madeCells zc m).toList = (List.range m).map fun i => zc[i % zc.size]! := by simp [madeCells]
theorem WL1.make {t e : TypeId} {x y : Operand} {d m sz bytes : Nat} {z : Value} {kl kc : IntKind} {p q : Int} (hE : Elem P t e z sz bytes) (ho : o.op = .makeSlice t x y) (hd : o.dst = some d) (hx : Ev n E x (.int kl p)) (hy : Ev n E y (.int kc q))
    (hp : p = (m : Int)) (hq : q = (m : Int)) (hb : bytes * m ≤ 281474976710656) (hm : m ≤ maxLen)
    (h : ∀ b, WL P n w0 ops K rest (E.set d (.slice (some ⟨b, 0, none⟩) m m)) (vec (some ⟨b, 0, none⟩) m m e sz (madeCells z.cells (m * sz)).toList :: L)) : WL1 P n w0 ops K o rest E L := fun w hw Q hQ K' hK => by
  subst hp
  subst hq
  obtain ⟨i, hi, h1, h2, h3⟩ := info_parts hE.hi
  have hm' : (m : Int) ≤ 9223372036854775807 := by unfold maxLen at hm; omega
  have hb' : (i.bytes : Int) * (m : Int) ≤ 281474976710656 := by rw [h3]; have : ((bytes * m : Nat) : Int) ≤ 281474976710656 := by omega
                                                                 rwa [Int.natCast_mul] at this
  have hr := run_make (P := P) w t e i z hE.ht hi h1 kl kc m m (by omega) (Int.le_refl _) hb' hm'
  simp only [Int.toNat_natCast, h2] at hr
  unfold Ev at hx hy
  unfold Oper.wp execOp
  simp only [ho, hx, hy, Sem.run_bind, Sem.run_pure, hr, Result.andThen_ok]
  show K' _ _
  rw [actOf_put, hd]
  have hv := hw.vec_new (madeCells z.cells (m * sz)).toList e sz m (by simp [size_madeCells]) hm
  rw [Array.toArray_toList] at hv
  exact hK _ _ (h w.heap.size _ hv Q hQ)
/-! ### Append -/
inductive Take (A : Asrt) : List Asrt → List Asrt → Prop
  | head {L : List Asrt} : Take A (A :: L) L
  | tail {D : Asrt} {L L' : List Asrt} : Take A L L' → Take A (D :: L) (D :: L')
theorem Take.perm {A : Asrt} {L L' : List Asrt} (h : Take A L L') : L.Perm (A :: L') := by
  induction h with
  | head => exact .refl _
  | tail _ ih => exact (List.Perm.cons _ ih).trans (List.Perm.swap _ _ _)
theorem H.nilvec {w : World} (hw : H w0 L w) (e : TypeId) (sz : Nat) : H w0 (vec none 0 0 e sz [] :: L) w :=
  ⟨hw.1, World.ownsRow_nil _ _ _ _, (fun b ⟨a, ha, _⟩ => by cases ha), (fun D _ b ⟨a, ha, _⟩ => by cases ha), hw.2⟩
theorem WL1.append {t e : TypeId} {x y : Operand} {d m c k sz bytes : Nat} {z : Value} {A : Option Addr} {src : Value} {xs news : List Value} {L1 : List Asrt} (hE : Elem P t e z sz bytes)
    (ho : o.op = .call { callee := .builtin .append, args := #[x, y], argTypes := #[t, t] }) (hd : o.dst = some d) (hx : Ev n E x (.slice A m c)) (hy : Ev n E y src) (hT : Take (vec A m c e sz xs) L L1)
    (hsl : ∀ w, H w0 L w → Sl w sz src k news) (h1 : ∀ u ∈ news, u.oneCell' = true) (h63 : m + k ≤ maxLen) (hby : (m + k) * bytes ≤ 140737488355328)
    (h : ∀ A' c', WL P n w0 ops K rest (E.set d (.slice A' (m + k) c')) (vec A' (m + k) c' e sz (xs ++ news) :: L1)) : WL1 P n w0 ops K o rest E L := fun w hw Q hQ K' hK => by
  have hp := hw.perm hT.perm
  obtain ⟨hB, hown, hft, hdis, hrest⟩ := hp
  obtain ⟨v', w', hrun, hown', hg, hob, _⟩ := run_append_sl (P := P) hE w 0 o.type (.slice A m c) m xs hown src k news (hsl w hw) h1 h63 hby (Nat.zero_le _)
  obtain ⟨A', c', rfl⟩ : ∃ A' c', v' = .slice A' (m + k) c' := by
    rcases hown'.2 with ⟨h2, h3⟩ | ⟨g, cap, cur, h2, _⟩
    · exact ⟨none, 0, by rw [h2, h3]⟩
    · exact ⟨_, _, h2⟩
  have hfoot : ∀ b, (Value.slice A m c).ownBlock = some b ↔ ∃ a, A = some a ∧ a.block = b := by
    intro b
    cases A with
    | none => simp [Value.ownBlock]
    | some a => simp [Value.ownBlock]
  have hkeep : ∀ b, b < w.heap.size → ¬ (∃ a, A = some a ∧ a.block = b) → w'.heap[b]? = w.heap[b]? := fun b hb hn => hg.block b hb fun e => hn ((hfoot b).1 e.symm)
  have hH : H w0 (vec A' (m + k) c' e sz (xs ++ news) :: L1) w' := by
    refine ⟨⟨hg.os.trans hB.os, hg.tape.trans hB.tape, hg.output.trans hB.output, Nat.le_trans hB.size hg.size, fun b hb => ?_⟩, hown', ?_, ?_, ?_⟩
    · rw [hkeep b (Nat.lt_of_lt_of_le hb hB.size) fun hf => by have := (hft b hf).1; omega]
      exact hB.block b hb
    · rintro b ⟨a, rfl, rfl⟩
      rcases hob with h2 | h2
      · have := hft a.block ((hfoot _).1 (h2.symm.trans rfl))
        exact ⟨this.1, Nat.lt_of_lt_of_le this.2 hg.size⟩
      · injection h2 with h2
        have hlt : a.block < w'.heap.size := by
          rcases hown'.2 with ⟨h3, _⟩ | ⟨g, cap, cur, h3, _, h4, _⟩
          · cases h3
          · injection h3 with h3; injection h3 with h3; subst h3; exact (Array.getElem?_eq_some_iff.1 h4).1
        exact ⟨by rw [h2]; exact hB.size, hlt⟩
    · rintro D hD b ⟨a, rfl, rfl⟩ hb
      rcases hob with h2 | h2
      · exact hdis D hD _ ((hfoot _).1 (h2.symm.trans rfl)) hb
      · injection h2 with h2
        have := ((hrest.in_ D hD).2 _ hb).2
        omega
    · exact hrest.later hg.size fun D hD b hb => hkeep b ((hrest.in_ D hD).2 b hb).2 fun hf => hdis D hD b hf hb
  unfold Ev at hx hy
  unfold Oper.wp execOp
  simp only [ho, resolve, invoke, builtin, Sem.run_bind, Sem.run_pure, Result.andThen_ok, List.map_toArray, List.map_cons, List.map_nil, hx, hy, hrun]
  show K' _ _
  rw [actOf_put, hd]
  exact hK _ _ (h A' c' _ hH Q hQ)
theorem WC.nilvec {c : Code} (e : TypeId) (sz : Nat) (h : WC P n w0 c Q E (vec none 0 0 e sz [] :: L)) : WC P n w0 c Q E L := fun w hw => h w (hw.nilvec e sz)
theorem WL.nilvec {l : List Oper} (e : TypeId) (sz : Nat) (h : WL P n w0 ops K l E (vec none 0 0 e sz [] :: L)) : WL P n w0 ops K l E L := fun w hw => h w (hw.nilvec e sz)
/-- A list may be weakened, put in another order. -/
theorem WL.sub {l : List Oper} {L' : List Asrt} (hs : L'.Sublist L) (h : WL P n w0 ops K l E L') : WL P n w0 ops K l E L := fun w hw => h w (hw.sub hs)
end
end Go.Proofs.Ytbofagfilohhfaa
