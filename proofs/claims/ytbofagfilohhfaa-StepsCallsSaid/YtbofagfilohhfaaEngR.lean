/- The program logic: ranges over functions: the record of a loop, rounds, calls of yield, functions that leave with marks. Over any program. No condition. -/
import Derived.Test.YtbofagfilohhfaaEng9
import Derived.RangeFuncRecord
import Derived.RangeFuncSeq
import Derived.RangeFuncBound
namespace Go.Proofs.Ytbofagfilohhfaa
set_option maxRecDepth 20000
open Go.RowKit

/-! ### Blocks that are no cells -/
def obj (b : Nat) (o : Obj) : Asrt where
  foot k := k = b
  ok w := w.heap[b]? = some o
  loc w w' h hw := (h b rfl).trans hw
abbrev dfr (D : Nat) : Asrt := obj D (.deferred (some []))
theorem H.allocObj {w0 w : World} {L : List Asrt} (h : H w0 L w) (o : Obj) : H w0 (obj w.heap.size o :: L) (w.alloc o) := by
  have hb : Below w.heap.size w (w.alloc o) := below_alloc w _
  have h' := h.below hb
  refine ⟨h'.1, World.alloc_heap_new w o, fun b hb' => ?_, fun C hC b hb' hc => ?_, h'.2⟩
  · have hb'' : b = w.heap.size := hb'
    subst hb''
    exact ⟨h.1.size, by simp⟩
  · have hb'' : b = w.heap.size := hb'
    subst hb''
    have := ((h.2.in_ C hC).2 _ hc).2
    omega
theorem H.putObj {w0 w : World} {L L' : List Asrt} {r : Nat} {o o' : Obj} (hL : H w0 L w) (h : Swap (obj r o) (obj r o') L L') : H w0 L' (w.putObj r o') := by
  have hlt : r < w.heap.size := ((hL.2.in_ _ h.mem).2 r rfl).2
  exact hL.swapped h (by simp) rfl rfl rfl (fun _ h => h) (fun b hb => World.putObj_heap_other hb) (World.putObj_heap_same hlt)
theorem H.obj {w0 w : World} {L : List Asrt} {r : Nat} {o : Obj} (hL : H w0 L w) (h : obj r o ∈ L) : w.heap[r]? = some o := (hL.2.in_ _ h).1

/-! ### Calls of yield -/
section
variable {P : Program} {n : Fr} {m : Nat} {ops : Array Oper} {Q : Exit → Act → World → Prop}
theorem fitsR_mem {l : List Oper} {o : Oper} (h : fitsR n l = true) (ho : o ∈ l) : fitsR n [o] = true := by
  unfold fitsR at *
  cases hr : n.ro with
  | none => rfl
  | some r =>
    rw [hr] at h
    have := List.all_eq_true.1 h o ho
    simp [plainOps, this]
theorem semAt_fen {o : Oper} (h : fitsR n [o] = true) (ρ : Operand → Value) : o.semAt (fen n).round ρ = execOp ρ o := by
  unfold fitsR at h
  unfold fen
  cases hr : n.ro with
  | none => rfl
  | some r =>
    rw [hr] at h
    refine Oper.semAt_eq _ _ _ fun c hc => ?_
    simp [plainOps, hc] at h
theorem fen_fn (f : FuncId) : (fen n).fn f := by unfold fen; cases n.ro <;> trivial
theorem fen_depth (h : (fen n).depth.isSome = true) : False := by unfold fen at h; cases hr : n.ro <;> rw [hr] at h <;> simp [Fence.wide] at h
theorem callsIn_fen {f : FuncId} {args : Array Value} {w : World} {R : Ending → World → Prop} (h : Calls P f args w R) : CallsIn (fen n) m P f args w R := by
  unfold fen; cases n.ro <;> exact callsIn_wide.2 h
theorem rowsIn_fen {row : String} {args : Array Value} {w : World} {R : Value → World → Prop} (h : Rows P row args w R) : RowsIn (fen n) m P row args w R := by
  unfold fen; cases n.ro <;> exact rowsIn_wide h
theorem roundIn_fen {l : Nat} {f : FuncId} {tmps : Array Value} {assign body : Code} {w : World} {R : Ending → World → Prop} (h : RoundIn Fence.wide m P l f tmps assign body w R) : RoundIn (fen n) m P l f tmps assign body w R := by
  unfold fen; cases n.ro <;> exact h
def onQ (X : Act → World → Prop) (Q : Exit → Act → World → Prop) : Exit → Act → World → Prop
  | .normal => X
  | e => Q e
theorem opIn_fen {o : Oper} {a : Act} {w : World} {K X : Act → World → Prop} (hd : fitsR n [o] = true) (h : o.wp P a w K (onQ X Q)) : o.wpIn (fen n) m P a w K Q := by
  refine ⟨fun _ _ => fen_fn _, ?_⟩
  rw [semAt_fen hd]
  unfold Oper.wp at h
  generalize (execOp a.eval o).run P w = r at h ⊢
  cases r with
  | ok x w' =>
    cases x with
    | enter f args => exact ⟨fun h => (fen_depth h).elim, callsIn_fen h⟩
    | row row args => exact ⟨fun h => (fen_depth h).elim, rowsIn_fen h⟩
    | round _ _ _ _ _ => exact h.elim
    | _ => exact h
  | halt x w' => cases x <;> exact h
theorem opsIn_fen {X : Act → World → Prop} {idx2 : List Nat} (hf : fitsR n ops.toList = true) (hQ : ¬ LetsOut Q) (hX : ∀ a w, X a w → wpOpsIn (fen n) m P ops Q idx2 a w) : ∀ (idx : List Nat) (a : Act) (w : World), wpOps P ops (onQ X Q) idx a w → wpOpsIn (fen n) m P ops Q (idx ++ idx2) a w
  | [], a, w, h => hX a w h
  | i :: rest, a, w, h => by
    rw [List.cons_append]
    unfold wpOps at h
    unfold wpOpsIn
    cases ho : ops[i]? with
    | none => simp only [ho] at h ⊢; exact opsIn_fen hf hQ hX rest a w h
    | some o =>
      simp only [ho] at h ⊢
      have hd : fitsR n [o] = true := fitsR_mem hf (by rw [Array.mem_toList_iff]; exact Array.mem_of_getElem? ho)
      by_cases hw : Region.wanted o (yielded ops a.tmps) = true
      · rw [if_pos hw] at h ⊢
        rcases h with h | h
        · exact Oper.wpIn_mono (fun a w h => opsIn_fen hf hQ hX rest a w h) (opIn_fen hd h)
        · exact absurd h.2 hQ
      · rw [if_neg hw] at h ⊢
        exact ⟨fun _ _ => fen_fn _, opsIn_fen hf hQ hX rest _ _ h⟩
theorem wpOps_wpList {l : List Oper} : ∀ {k : Nat} {a : Act} {w : World}, (∀ j, j < l.length → ops[k + j]? = l[j]?) → wpList P ops Q l a w → wpOps P ops Q (List.range' k l.length) a w := by
  induction l with
  | nil => exact fun _ h => h
  | cons o l ih =>
    intro k a w hk h
    have h0 : ops[k]? = some o := by simpa using hk 0 (by simp)
    have ih' := fun {a w} h => ih (k := k + 1) (a := a) (w := w) (fun j hj => by have := hk (j + 1) (by simpa using hj); rw [show k + 1 + j = k + (j + 1) from by omega, this]; simp) h
    unfold wpList at h
    rw [List.length_cons, List.range'_succ]
    unfold wpOps
    rw [h0]
    simp only
    by_cases hw : Region.wanted o (yielded ops a.tmps) = true
    · rw [if_pos hw] at h ⊢
      rcases h with h | h
      · left
        unfold Oper.wp at h ⊢
        generalize (execOp a.eval o).run P w = r at h ⊢
        cases r with
        | ok x w' =>
          cases x <;> simp only [Oper.upon] at h ⊢ <;> first
            | exact ih' h
            | exact h.mono (fun e w'' he => by cases e <;> first | exact ih' he | exact he)
            | exact h.mono (fun _ _ he => ih' he)
            | exact h
        | halt x w' => cases x <;> exact h
      · exact .inr h
    · rw [if_neg hw] at h ⊢
      exact ih' h
end
section
variable {P : Program} {n : Fr} {w0 : World} {E : Env} {L : List Asrt} {Q : Exit → Post}
/-- A region with a call of yield at place m. -/
theorem WC.regionY (m : Nat) {id r : Nat} {l : List Oper} {o : Oper} {x : Operand} {args : List Operand} {ts : Array TypeId} (hf : fitsR n l = true) (ho : l[m]? = some o) (hop : o.op = .call { callee := .value x, args := args.toArray, argTypes := ts }) (hg : o.guard = none)
    (h : WL P n w0 l.toArray (fun E' L' => ∃ vals : List Value, Ev n E' x (.func (.yield r) #[] #[]) ∧ Evs n E' args vals ∧ ∀ w, H w0 L' w → YieldAt Fence.wide 0 P r vals.toArray w fun e w' => ∃ v L'', e = .returned v ∧ H w0 L'' w' ∧ WL P n w0 l.toArray (Q .normal) (l.drop (m + 1)) (E'.put o.dst v) L'') (l.take m) E L) :
    WC P n w0 (.region id l.toArray false) Q E L := fun w hw => by
  have hlt : m < l.length := by
    rcases Nat.lt_or_ge m l.length with h | h
    · exact h
    · rw [List.getElem?_eq_none h] at ho; cases ho
  refine wpIn_region ?_
  have hsz : List.range l.toArray.size = List.range' 0 (l.take m).length ++ m :: List.range' (m + 1) (l.drop (m + 1)).length := by
    obtain ⟨q, hq⟩ : ∃ q, l.length = m + (1 + q) := ⟨l.length - (m + 1), by omega⟩
    rw [List.range_eq_range', List.size_toArray, List.length_take, List.length_drop, hq, Nat.min_eq_left (by omega), show m + (1 + q) - (m + 1) = q from by omega, ← List.range'_append_1, ← List.range'_append_1]
    simp
  rw [hsz]
  have hf' : fitsR n l.toArray.toList = true := by simpa using hf
  refine opsIn_fen (X := fun a' w' => ∃ E' L', a' = actOf n E' ∧ H w0 L' w' ∧ ∃ vals : List Value, Ev n E' x (.func (.yield r) #[] #[]) ∧ Evs n E' args vals ∧ ∀ w, H w0 L' w → YieldAt Fence.wide 0 P r vals.toArray w fun e w' => ∃ v L'', e = .returned v ∧ H w0 L'' w' ∧ WL P n w0 l.toArray (Q .normal) (l.drop (m + 1)) (E'.put o.dst v) L'') hf' liftQ_in ?_ _ _ _
    (wpOps_wpList (fun j hj => by
      rw [List.getElem?_toArray, Nat.zero_add, List.getElem?_take, if_pos (by rw [List.length_take] at hj; omega)]) (h w hw _ fun E' L' w' hH hK => ⟨E', L', rfl, hH, hK⟩))
  rintro a' w' ⟨E', L', rfl, hH, vals, hx, hv, hY⟩
  unfold wpOpsIn
  rw [List.getElem?_toArray, ho]
  simp only
  rw [if_pos (by simp [Region.wanted, hg])]
  refine ⟨fun _ _ => fen_fn _, ?_⟩
  rw [semAt_fen (fitsR_mem hf (List.mem_of_getElem? ho))]
  obtain ⟨fn, tmps, assign, body, hy, hR⟩ := hY w' hH
  have hm : args.toArray.map (actOf n E').eval = vals.toArray := by rw [List.map_toArray, hv.map]
  have hx' : (actOf n E').eval x = .func (.yield r) #[] #[] := hx
  have hrun : (execOp (actOf n E').eval o).run P w' = .ok (.round r fn tmps assign body) w' := by
    unfold execOp
    simp only [hop, resolve, hx', Deferred.ofValue, Sem.run_bind, Sem.run_pure, Result.andThen_ok]
    rw [hm]
    simp only [Array.append_empty, Array.empty_append, invoke, hy]
  rw [hrun]
  refine ⟨fun h => (fen_depth h).elim, roundIn_fen (hR.mono ?_)⟩
  rintro e w2 ⟨v, L'', rfl, hH2, hW⟩
  show wpOpsIn _ _ _ _ _ _ _ _
  rw [actOf_put]
  have := opsIn_fen (n := n) (m := 0) (idx2 := []) (X := liftQ n w0 Q .normal) (Q := liftQ n w0 Q) (P := P) (ops := l.toArray) hf' liftQ_in (fun a w h => h) (List.range' (m + 1) (l.drop (m + 1)).length) (actOf n (E'.put o.dst v)) w2
    (wpOps_wpList (fun j _ => by rw [List.getElem?_toArray, List.getElem?_drop]) (hW w2 hH2 _ fun E3 L3 w3 hH3 hK => ⟨E3, L3, rfl, hH3, hK⟩))
  simpa using this
end
/-! ### The statement -/
def recOf (fn : FuncId) (tmps : Array Value) (ps : Array Tmp) (assign body : Code) (D : Nat) (st : LoopState) (pe : Option Code) : Loop := { state := st, pending := pe, fn := fn, tmps := tmps, params := ps, assign := assign, body := body, defers := D }
def mark (D : Nat) : Deferred := { target := .collected D, args := #[] }
def marks (Ds : List Nat) : List Deferred := Ds.map mark
def setsL (E : Env) : List (Nat × Value) → Env
  | [] => E
  | (i, v) :: l => setsL (E.set i v) l
section
variable {P : Program} {n : Fr} {w0 w : World} {E : Env} {L : List Asrt}
theorem foldl_tmps {ro : Option Nat} {ds : List Deferred} : ∀ (ps : List (Nat × Value)) (E : Env), ps.foldl (fun (t : Array Value) (p : Nat × Value) => t.setIfInBounds p.1 p.2) (actOf n E).tmps = (actOf ⟨n.n, ro, ds⟩ (setsL E ps)).tmps
  | [], _ => rfl
  | (i, v) :: ps, E => by
    rw [List.foldl_cons]
    have := congrArg Act.tmps (actOf_put n E (some i) v)
    show List.foldl _ ((actOf n E).tmps.setIfInBounds i v) _ = _
    rw [show (actOf n E).tmps.setIfInBounds i v = (actOf n (E.set i v)).tmps from this]
    exact foldl_tmps ps (E.set i v)
/-- What a round owes: at its end, or where it returns, the record as it is there. -/
def roundQ (r : Nat) (rec : LoopState → Option Code → Loop) (T T' : List Asrt → Prop) : Exit → Post
  | .normal => fun _ L => ∃ L2, Swap (obj r (.loop (rec .busy none))) (obj r (.loop (rec .ready none))) L L2 ∧ T L2
  | .ret => fun _ L => ∃ L2, Swap (obj r (.loop (rec .busy none))) (obj r (.loop (rec .done (some .ret)))) L L2 ∧ T' L2
  | _ => fun _ _ => False
def startQ (P : Program) (n : Fr) (w0 : World) (r : Nat) (rec : LoopState → Option Code → Loop) (body : Code) (T T' : List Asrt → Prop) : Exit → Post
  | .normal => fun E L => ∃ L2, Swap (obj r (.loop (rec .ready none))) (obj r (.loop (rec .busy none))) L L2 ∧ WC P n w0 body (roundQ r rec T T') E L2
  | _ => fun _ _ => False
theorem yieldAt {fn : FuncId} {D r : Nat} {ps : List Nat} {vals : List Value} {assign body : Code} {T T' : List Asrt → Prop} (hw : H w0 L w) (hm : obj r (.loop (recOf fn (actOf n E).tmps ps.toArray assign body D .ready none)) ∈ L) (hps : vals.length = ps.length)
    (h : WC P ⟨n.n, some r, []⟩ w0 assign (startQ P ⟨n.n, some r, []⟩ w0 r (recOf fn (actOf n E).tmps ps.toArray assign body D) body T T') (setsL E (ps.zip vals)) L) :
    YieldAt Fence.wide 0 P r vals.toArray w fun e w' => (e = .returned (.bool true) ∧ ∃ L2, T L2 ∧ H w0 L2 w') ∨ (e = .returned (.bool false) ∧ ∃ L2, T' L2 ∧ H w0 L2 w') := by
  refine ⟨_, _, _, _, run_yield (hw.obj hm) (show vals.toArray.size = ps.toArray.size by simpa using hps), ?_⟩
  refine roundIn_of_wpIn trivial ?_
  have ht : ((recOf fn (actOf n E).tmps ps.toArray assign body D .ready none).params.zip vals.toArray).foldl (fun (tmps : Array Value) (p : Nat × Value) => tmps.setIfInBounds p.1 p.2) (recOf fn (actOf n E).tmps ps.toArray assign body D .ready none).tmps = (actOf ⟨n.n, some r, []⟩ (setsL E (ps.zip vals))).tmps := by
    show (ps.toArray.zip vals.toArray).foldl _ (actOf n E).tmps = _
    rw [List.zip_toArray, List.foldl_toArray]
    exact foldl_tmps _ _
  have ha : ({ tmps := ((recOf fn (actOf n E).tmps ps.toArray assign body D .ready none).params.zip vals.toArray).foldl (fun (tmps : Array Value) (p : Nat × Value) => tmps.setIfInBounds p.1 p.2) (recOf fn (actOf n E).tmps ps.toArray assign body D .ready none).tmps, defers := [] } : Act) = actOf ⟨n.n, some r, []⟩ (setsL E (ps.zip vals)) := by
    rw [ht]; rfl
  show Code.wpIn _ _ _ _ _ _ _
  refine (congrArg (fun a => Code.wpIn (Fence.wide.inRound r) 0 P assign _ a w) ha).mpr ?_
  refine wpIn_mono (h w hw) ?_
  intro e a w1 hq
  cases e with
  | normal =>
    obtain ⟨E1, L1, rfl, hH, L2, hs, hb⟩ := hq
    have h1 : w1.heap[r]? = some (.loop (recOf fn (actOf n E).tmps ps.toArray assign body D .ready none)) := (hH.2.in_ _ hs.mem).1
    have hH2 := hH.putObj hs
    refine ⟨_, run_beginRound h1 rfl, wpIn_mono (hb _ hH2) ?_⟩
    intro e a w2 hq
    cases e with
    | normal =>
      obtain ⟨E3, L3, rfl, hH3, L4, hs4, hT⟩ := hq
      have h3 : w2.heap[r]? = some (.loop (recOf fn (actOf n E).tmps ps.toArray assign body D .busy none)) := (hH3.2.in_ _ hs4.mem).1
      exact ⟨_, _, run_endRound none h3, .inl ⟨rfl, L4, hT, hH3.putObj hs4⟩⟩
    | ret =>
      obtain ⟨E3, L3, rfl, hH3, L4, hs4, hT⟩ := hq
      have h3 : w2.heap[r]? = some (.loop (recOf fn (actOf n E).tmps ps.toArray assign body D .busy none)) := (hH3.2.in_ _ hs4.mem).1
      exact ⟨_, _, run_endRound (some .ret) h3, .inr ⟨rfl, L4, hT, hH3.putObj hs4⟩⟩
    | exit i => obtain ⟨_, _, _, _, hf⟩ := hq; exact hf.elim
    | _ => exact hq.elim
  | ret => obtain ⟨_, _, _, _, hf⟩ := hq; exact hf.elim
  | exit i => obtain ⟨_, _, _, _, hf⟩ := hq; exact hf.elim
  | _ => exact hq.elim
theorem wpF_rangeFunc {g : Operand} {ps : Array Nat} {assign body : Code} {gf : FuncId} {lb : Array Value} {R : Exit → Act → World → Prop} (hro : n.ro = none) (hg : Ev n E g (.func (.func gf) #[] lb)) (hc : callable P gf = true) (hw : H w0 L w)
    (h : ∀ fn r D w1, H w0 (obj r (.loop (recOf fn (actOf n E).tmps ps assign body D .ready none)) :: dfr D :: L) w1 → Calls P gf (#[.func (.yield r) #[] #[]] ++ lb) w1 fun e w2 => ∃ v, e = .returned v ∧
      ((∃ L', H w0 (obj r (.loop (recOf fn (actOf n E).tmps ps assign body D .ready none)) :: dfr D :: L') w2 ∧ ∀ w3, H w0 (dfr D :: L') w3 → R .normal (actOf ⟨n.n, n.ro, mark D :: n.ds⟩ E) w3) ∨
       (∃ L', H w0 (obj r (.loop (recOf fn (actOf n E).tmps ps assign body D .done (some .ret))) :: dfr D :: L') w2 ∧ ∀ w3, H w0 (dfr D :: L') w3 → R .ret (actOf ⟨n.n, n.ro, mark D :: n.ds⟩ E) w3))) :
    wpF n P (.rangeFunc g ps assign body) R (actOf n E) w := by
  have hfen : fen n = Fence.wide := by unfold fen; rw [hro]
  unfold wpF
  rw [hfen]
  refine wpIn_rangeFunc ?_
  intro fn _
  have hg' : (actOf n E).eval g = .func (.func gf) #[] lb := hg
  have hH1 := (hw.allocObj (.deferred (some []))).allocObj (.loop (recOf fn (actOf n E).tmps ps assign body w.heap.size .ready none))
  have hsz : (w.alloc (.deferred (some []))).heap.size = w.heap.size + 1 := by simp
  rw [hsz] at hH1
  obtain ⟨W1, hW1⟩ : ∃ W1, W1 = (w.alloc (.deferred (some []))).alloc (.loop (recOf fn (actOf n E).tmps ps assign body w.heap.size .ready none)) := ⟨_, rfl⟩
  rw [← hW1] at hH1
  have hent : (Instr.enterLoop fn (actOf n E).tmps ps assign body none).run P w = .ok (w.heap.size + 1, [mark w.heap.size]) W1 := by rw [hW1]; exact run_enterLoop_outer _ _ _ _ _
  refine ⟨w.heap.size + 1, [mark w.heap.size], W1, { target := .fn (.func gf) lb, args := #[.func (.yield (w.heap.size + 1)) #[] #[]] }, W1, gf, #[.func (.yield (w.heap.size + 1)) #[] #[]] ++ lb, W1, hent, ?_, fun _ _ => trivial, ?_, fun h => by simp [Fence.wide] at h, ?_⟩
  · simp only [resolve, hg']
    simp [go_sem]
  · simp [invoke, run_callFunc hc]
  · refine callsIn_wide.2 ((h fn (w.heap.size + 1) w.heap.size _ hH1).mono ?_)
    rintro e w2 ⟨v, rfl, (⟨L', hH2, hR⟩ | ⟨L', hH2, hR⟩)⟩
    · have h1 : w2.heap[w.heap.size + 1]? = some (.loop (recOf fn (actOf n E).tmps ps assign body w.heap.size .ready none)) := hH2.obj (.head _)
      exact ⟨none, _, run_endLoop h1 (by simp [recOf]), hR _ ((hH2.putObj .head).sub (.cons _ (.refl _)))⟩
    · have h1 : w2.heap[w.heap.size + 1]? = some (.loop (recOf fn (actOf n E).tmps ps assign body w.heap.size .done (some .ret))) := hH2.obj (.head _)
      exact ⟨some .ret, _, run_endLoop h1 (by simp [recOf]), wpIn_ret (hR _ ((hH2.putObj .head).sub (.cons _ (.refl _))))⟩
/-- A range over an iterator that yields N times and never is stopped: m items are still to come in I m. -/
theorem wpF_range_it {g : Operand} {ps : List Nat} {assign body : Code} {gf : FuncId} {lb : List Value} {R : Exit → Act → World → Prop} (N : Nat) (I : Nat → List Asrt) (vals : Nat → List Value) (hro : n.ro = none) (hg : Ev n E g (.func (.func gf) #[] lb.toArray)) (hc : callable P gf = true) (hw : H w0 L w) (hL : (I N).Sublist L) (hv : ∀ m, (vals m).length = ps.length)
    (hit : ∀ (r D : Nat) (A : Asrt), (∀ m, m < N → ∀ w, H w0 (A :: dfr D :: I (m + 1)) w → YieldAt Fence.wide 0 P r (vals m).toArray w fun e w' => e = .returned (.bool true) ∧ H w0 (A :: dfr D :: I m) w') → ∀ w, H w0 (A :: dfr D :: I N) w →
      Calls P gf ((.func (.yield r) #[] #[] :: lb).toArray) w fun e w' => e = .returned (.tuple #[]) ∧ H w0 (A :: dfr D :: I 0) w')
    (round : ∀ (rec : LoopState → Option Code → Loop) (r D m : Nat), m < N → WC P ⟨n.n, some r, []⟩ w0 assign (startQ P ⟨n.n, some r, []⟩ w0 r rec body (fun L2 => (obj r (.loop (rec .ready none)) :: dfr D :: I m).Sublist L2) (fun _ => False)) (setsL E (ps.zip (vals m))) (obj r (.loop (rec .ready none)) :: dfr D :: I (m + 1)))
    (hR : ∀ (D : Nat) (w3 : World), H w0 (dfr D :: I 0) w3 → R .normal (actOf ⟨n.n, n.ro, mark D :: n.ds⟩ E) w3) : wpF n P (.rangeFunc g ps.toArray assign body) R (actOf n E) w := by
  refine wpF_rangeFunc hro hg hc (hw.sub hL) ?_
  intro fn r D w1 hw1
  have := hit r D _ (fun m hm w2 hw2 => YieldAt.mono (yieldAt hw2 (.head _) (hv m) (round (recOf fn (actOf n E).tmps ps.toArray assign body D) r D m hm)) (by
    rintro e w3 (⟨rfl, L2, hs, hH⟩ | ⟨_, _, hf, _⟩)
    · exact ⟨rfl, hH.sub hs⟩
    · exact hf.elim)) w1 hw1
  rw [show (#[Value.func (.yield r) #[] #[]] ++ lb.toArray : Array Value) = (Value.func (.yield r) #[] #[] :: lb).toArray from by simp]
  exact this.mono fun e w2 ⟨he, hH⟩ => ⟨_, he, .inl ⟨I 0, hH, fun w3 hw3 => hR D w3 hw3⟩⟩
/-! ### Functions that leave with marks -/
theorem leavesM {fn : Func} {tmps : Array Value} {R : Ending → World → Prop} {v : Value} (hv : ∀ w, (results fn tmps).run P w = .ok v w) (hR : ∀ w', H w0 L w' → R (.returned v) w') : ∀ (Ds : List Nat) (w : World), H w0 (Ds.map dfr ++ L) w → LeavesInM Fence.wide 0 P fn tmps R (marks Ds) .returning w
  | [], w, hw => ⟨v, hv w, hR w hw⟩
  | D :: Ds, w, hw => by
    have h1 : w.heap[D]? = some (.deferred (some [])) := hw.obj (.head _)
    exact ⟨by simp, .inl ⟨D, _, rfl, run_takeDeferred h1, leavesM hv hR Ds _ ((hw.putObj (o' := .deferred none) .head).sub (.cons _ (.refl _)))⟩⟩
def retM (m : Nat) (w0 : World) (R : Ending → World → Prop) (ts : List Nat) : Exit → Act → World → Prop
  | .ret, a, w => ∃ E Ds L, a = actOf ⟨m, none, marks Ds⟩ E ∧ H w0 (Ds.map dfr ++ L) w ∧ ∀ w', H w0 L w' → R (.returned (resV E ts)) w'
  | .normal, a, w => ∃ E Ds L, a = actOf ⟨m, none, marks Ds⟩ E ∧ H w0 (Ds.map dfr ++ L) w ∧ ∀ w', H w0 L w' → R (.returned (resV E ts)) w'
  | _, _, _ => False
theorem calls_wcM {m : Nat} {f : FuncId} {fn : Func} {c : Code} {args : List Value} {R : Ending → World → Prop} (ts : List Nat) (L0 : List Asrt) (hf : P.funcs[f]? = some fn) (hb : fn.body = some c) (hn : fn.ntmps = m) (hl : Nat.ble args.length m = true)
    (hres : fn.results = (ts.map ResultVar.tmp).toArray) (htn : (ts.all fun t => Nat.blt t m) = true) (h3 : Nat.ble ts.length 3 = true) (hw : H w0 L0 w) (h : wpF ⟨m, none, []⟩ P c (retM m w0 R ts) (actOf ⟨m, none, []⟩ (argE args)) w) : Calls P f args.toArray w R := by
  refine callsIn_wide.1 (callsIn_of_wp_marks (F := Fence.wide) (n := 0) hf hb trivial ?_)
  rw [hn, entry_frame args (Nat.le_of_ble_eq_true hl)]
  refine wpIn_mono h ?_
  intro e a w' hq
  cases e with
  | normal => obtain ⟨E', Ds, L', rfl, hH, hK⟩ := hq; exact leavesM (run_results (n := ⟨m, none, marks Ds⟩) hres htn h3) hK Ds w' hH
  | ret => obtain ⟨E', Ds, L', rfl, hH, hK⟩ := hq; exact leavesM (run_results (n := ⟨m, none, marks Ds⟩) hres htn h3) hK Ds w' hH
  | _ => exact hq.elim
/-! ### Codes whose end is any frame -/
def WG (P : Program) (n : Fr) (w0 : World) (c : Code) (R : Exit → Act → World → Prop) (E : Env) (L : List Asrt) : Prop := ∀ w, H w0 L w → wpF n P c R (actOf n E) w
def postOf (n : Fr) (w0 : World) (R : Exit → Act → World → Prop) : Exit → Post := fun e E L => ∀ w, H w0 L w → R e (actOf n E) w
theorem WG.of {c : Code} {R : Exit → Act → World → Prop} (h : WC P n w0 c (postOf n w0 R) E L) : WG P n w0 c R E L := fun w hw => wpIn_mono (h w hw) fun e a w' hq => by
  cases e with
  | normal => obtain ⟨E', L', rfl, hH, hK⟩ := hq; exact hK w' hH
  | ret => obtain ⟨E', L', rfl, hH, hK⟩ := hq; exact hK w' hH
  | exit i => obtain ⟨E', L', rfl, hH, hK⟩ := hq; exact hK w' hH
  | _ => exact hq.elim
theorem WG.seq {x y : Code} {R : Exit → Act → World → Prop} (h : ∀ K : Post, (∀ E L, WG P n w0 y R E L → K E L) → WC P n w0 x (seqQ K (postOf n w0 R)) E L) : WG P n w0 (.seq x y) R E L := fun w hw => by
  refine wpIn_seq (wpIn_mono (h (fun E L => WG P n w0 y R E L) (fun _ _ h => h) w hw) ?_)
  intro e a w' hq
  cases e with
  | normal => obtain ⟨E', L', rfl, hH, hK⟩ := hq; exact hK w' hH
  | ret => obtain ⟨E', L', rfl, hH, hK⟩ := hq; exact hK w' hH
  | exit i => obtain ⟨E', L', rfl, hH, hK⟩ := hq; exact hK w' hH
  | _ => exact hq.elim
theorem WG.block {id : Nat} {c : Code} {R : Exit → Act → World → Prop} (h : WG P n w0 c (Exit.inBlock id R) E L) : WG P n w0 (.block id c) R E L := fun w hw => wpIn_block (h w hw)
theorem WG.seqG {x y : Code} {R : Exit → Act → World → Prop} (h : WG P n w0 x (Exit.then (fun a w => wpF n P y R a w) R) E L) : WG P n w0 (.seq x y) R E L := fun w hw => wpIn_seq (h w hw)
def loopR {γ : Type} (n : Fr) (w0 : World) (m : Nat) (VI : γ → List (Nat × Value)) (LI : γ → List Asrt) (DI : γ → List Nat) (pre : γ → Prop) (μ : γ → Nat) (E : Env) (g : γ) (R : Exit → Act → World → Prop) : Exit → Act → World → Prop
  | .normal, a, w => ∃ g' E', Out m E' E ∧ Agree E' (VI g') ∧ a = actOf ⟨n.n, n.ro, marks (DI g')⟩ E' ∧ H w0 (LI g') w ∧ pre g' ∧ μ g' < μ g
  | e, a, w => R e a w
theorem WG.loop {c : Code} {R : Exit → Act → World → Prop} {γ : Type} (m : Nat) (VI : γ → List (Nat × Value)) (LI : γ → List Asrt) (DI : γ → List Nat) (pre : γ → Prop) (μ : γ → Nat) (g : γ) (hE : Agree E (VI g)) (hL : (LI g).Sublist L) (hD : n.ds = marks (DI g)) (hp : pre g)
    (round : ∀ g U, pre g → WG P ⟨n.n, n.ro, marks (DI g)⟩ w0 c (loopR n w0 m VI LI DI pre μ E g R) (sets (hav m E U) (VI g)) (LI g)) : WG P n w0 (.loop c) R E L := by
  intro w hw
  refine wpIn_loop_ghost (fun k a w => ∃ g U, μ g = k ∧ a = actOf ⟨n.n, n.ro, marks (DI g)⟩ (sets (hav m E U) (VI g)) ∧ H w0 (LI g) w ∧ pre g) (μ g) ⟨g, E, rfl, ?_, hw.sub hL, hp⟩ ?_
  · rw [hav_out (Out.refl m E), sets_same hE, ← hD]
  · rintro k a w' ⟨g, U, rfl, rfl, hH, hp'⟩
    refine wpIn_mono (round g U hp' w' hH) ?_
    intro e a' w'' hq
    cases e with
    | normal =>
      obtain ⟨g', E', ho, ha, rfl, hH', hp'', hm⟩ := hq
      exact ⟨μ g', hm, g', E', rfl, by rw [hav_out ho, sets_same ha], hH', hp''⟩
    | _ => exact hq
end
end Go.Proofs.Ytbofagfilohhfaa
