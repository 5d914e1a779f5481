/- Texts joined: EngR, MatW, Eng10, Eng11, Eng12, MatR, Lin, Gf, Mat1, Mat2, Mat3, Mat4, Gauss, Gp, Gi, Mat5. The parts say what each of them proves. No condition. -/
import Derived.Test.YtlcddlipcdimeaaJo1
import Derived.RangeFuncRecord
import Derived.RangeFuncSeq
import Derived.RangeFuncBound
import Derived.OrdersHeld
import Derived.Laws.CopyRow
namespace Go.Proofs.Ytlcddlipcdimeaa
open Go.RowKit

/-! ### Blocks that are no cells -/
def obj (b : Nat) (o : Obj) : Asrt where
  foot k := k = b
  ok w := w.heap[b]? = some o
  loc w w' h hw := (h b rfl).trans hw
abbrev dfr (D : Nat) : Asrt := obj D (.deferred (some []))
theorem H.allocObj {w0 w : World} {L : List Asrt} (h : H w0 L w) (o : Obj) : H w0 (obj w.heap.size o :: L) (w.alloc o) := by
  have hb : Below w.heap.size w (w.alloc o) := below_alloc w _
  have h' := h.below hb
  refine ⟨h'.1, World.alloc_heap_new w o, fun b hb' => ?_, fun C hC b hb' hc => ?_, h'.2⟩
  · have hb'' : b = w.heap.size := hb'
    subst hb''
    exact ⟨h.1.size, by simp⟩
  · have hb'' : b = w.heap.size := hb'
    subst hb''
    have := ((h.2.in_ C hC).2 _ hc).2
    omega
theorem H.putObj {w0 w : World} {L L' : List Asrt} {r : Nat} {o o' : Obj} (hL : H w0 L w) (h : Swap (obj r o) (obj r o') L L') : H w0 L' (w.putObj r o') := by
  have hlt : r < w.heap.size := ((hL.2.in_ _ h.mem).2 r rfl).2
  exact hL.swapped h (by simp) rfl rfl rfl (fun _ h => h) (fun b hb => World.putObj_heap_other hb) (World.putObj_heap_same hlt)
theorem H.obj {w0 w : World} {L : List Asrt} {r : Nat} {o : Obj} (hL : H w0 L w) (h : obj r o ∈ L) : w.heap[r]? = some o := (hL.2.in_ _ h).1

/-! ### Calls of yield -/
section
variable {P : Program} {n : Fr} {m : Nat} {ops : Array Oper} {Q : Exit → Act → World → Prop}
theorem fitsR_mem {l : List Oper} {o : Oper} (h : fitsR n l = true) (ho : o ∈ l) : fitsR n [o] = true := by
  unfold fitsR at *
  cases hr : n.ro with
  | none => rfl
  | some r =>
    rw [hr] at h
    have := List.all_eq_true.1 h o ho
    simp [plainOps, this]
theorem semAt_fen {o : Oper} (h : fitsR n [o] = true) (ρ : Operand → Value) : o.semAt (fen n).round ρ = execOp ρ o := by
  unfold fitsR at h
  unfold fen
  cases hr : n.ro with
  | none => rfl
  | some r =>
    rw [hr] at h
    refine Oper.semAt_eq _ _ _ fun c hc => ?_
    simp [plainOps, hc] at h
theorem fen_fn (f : FuncId) : (fen n).fn f := by unfold fen; cases n.ro <;> trivial
theorem fen_depth (h : (fen n).depth.isSome = true) : False := by unfold fen at h; cases hr : n.ro <;> rw [hr] at h <;> simp [Fence.wide] at h
theorem callsIn_fen {f : FuncId} {args : Array Value} {w : World} {R : Ending → World → Prop} (h : Calls P f args w R) : CallsIn (fen n) m P f args w R := by
  unfold fen; cases n.ro <;> exact callsIn_wide.2 h
theorem rowsIn_fen {row : String} {args : Array Value} {w : World} {R : Value → World → Prop} (h : Rows P row args w R) : RowsIn (fen n) m P row args w R := by
  unfold fen; cases n.ro <;> exact rowsIn_wide h
theorem roundIn_fen {l : Nat} {f : FuncId} {tmps : Array Value} {assign body : Code} {w : World} {R : Ending → World → Prop} (h : RoundIn Fence.wide m P l f tmps assign body w R) : RoundIn (fen n) m P l f tmps assign body w R := by
  unfold fen; cases n.ro <;> exact h
def onQ (X : Act → World → Prop) (Q : Exit → Act → World → Prop) : Exit → Act → World → Prop
  | .normal => X
  | e => Q e
theorem opIn_fen {o : Oper} {a : Act} {w : World} {K X : Act → World → Prop} (hd : fitsR n [o] = true) (h : o.wp P a w K (onQ X Q)) : o.wpIn (fen n) m P a w K Q := by
  refine ⟨fun _ _ => fen_fn _, ?_⟩
  rw [semAt_fen hd]
  unfold Oper.wp at h
  generalize (execOp a.eval o).run P w = r at h ⊢
  cases r with
  | ok x w' =>
    cases x with
    | enter f args => exact ⟨fun h => (fen_depth h).elim, callsIn_fen h⟩
    | row row args => exact ⟨fun h => (fen_depth h).elim, rowsIn_fen h⟩
    | round _ _ _ _ _ => exact h.elim
    | _ => exact h
  | halt x w' => cases x <;> exact h
theorem opsIn_fen {X : Act → World → Prop} {idx2 : List Nat} (hf : fitsR n ops.toList = true) (hQ : ¬ LetsOut Q) (hX : ∀ a w, X a w → wpOpsIn (fen n) m P ops Q idx2 a w) : ∀ (idx : List Nat) (a : Act) (w : World), wpOps P ops (onQ X Q) idx a w → wpOpsIn (fen n) m P ops Q (idx ++ idx2) a w
  | [], a, w, h => hX a w h
  | i :: rest, a, w, h => by
    rw [List.cons_append]
    unfold wpOps at h
    unfold wpOpsIn
    cases ho : ops[i]? with
    | none => simp only [ho] at h ⊢; exact opsIn_fen hf hQ hX rest a w h
    | some o =>
      simp only [ho] at h ⊢
      have hd : fitsR n [o] = true := fitsR_mem hf (by rw [Array.mem_toList_iff]; exact Array.mem_of_getElem? ho)
      by_cases hw : Region.wanted o (yielded ops a.tmps) = true
      · rw [if_pos hw] at h ⊢
        rcases h with h | h
        · exact Oper.wpIn_mono (fun a w h => opsIn_fen hf hQ hX rest a w h) (opIn_fen hd h)
        · exact absurd h.2 hQ
      · rw [if_neg hw] at h ⊢
        exact ⟨fun _ _ => fen_fn _, opsIn_fen hf hQ hX rest _ _ h⟩
theorem wpOps_wpList {l : List Oper} : ∀ {k : Nat} {a : Act} {w : World}, (∀ j, j < l.length → ops[k + j]? = l[j]?) → wpList P ops Q l a w → wpOps P ops Q (List.range' k l.length) a w := by
  induction l with
  | nil => exact fun _ h => h
  | cons o l ih =>
    intro k a w hk h
    have h0 : ops[k]? = some o := by simpa using hk 0 (by simp)
    have ih' := fun {a w} h => ih (k := k + 1) (a := a) (w := w) (fun j hj => by have := hk (j + 1) (by simpa using hj); rw [show k + 1 + j = k + (j + 1) from by omega, this]; simp) h
    unfold wpList at h
    rw [List.length_cons, List.range'_succ]
    unfold wpOps
    rw [h0]
    simp only
    by_cases hw : Region.wanted o (yielded ops a.tmps) = true
    · rw [if_pos hw] at h ⊢
      rcases h with h | h
      · left
        unfold Oper.wp at h ⊢
        generalize (execOp a.eval o).run P w = r at h ⊢
        cases r with
        | ok x w' =>
          cases x <;> simp only [Oper.upon] at h ⊢ <;> first
            | exact ih' h
            | exact h.mono (fun e w'' he => by cases e <;> first | exact ih' he | exact he)
            | exact h.mono (fun _ _ he => ih' he)
            | exact h
        | halt x w' => cases x <;> exact h
      · exact .inr h
    · rw [if_neg hw] at h ⊢
      exact ih' h
end
section
variable {P : Program} {n : Fr} {w0 : World} {E : Env} {L : List Asrt} {Q : Exit → Post}
/-- A region with a call of yield at place m. -/
theorem WC.regionY (m : Nat) {id r : Nat} {l : List Oper} {o : Oper} {x : Operand} {args : List Operand} {ts : Array TypeId} (hf : fitsR n l = true) (ho : l[m]? = some o) (hop : o.op = .call { callee := .value x, args := args.toArray, argTypes := ts }) (hg : o.guard = none)
    (h : WL P n w0 l.toArray (fun E' L' => ∃ vals : List Value, Ev n E' x (.func (.yield r) #[] #[]) ∧ Evs n E' args vals ∧ ∀ w, H w0 L' w → YieldAt Fence.wide 0 P r vals.toArray w fun e w' => ∃ v L'', e = .returned v ∧ H w0 L'' w' ∧ WL P n w0 l.toArray (Q .normal) (l.drop (m + 1)) (E'.put o.dst v) L'') (l.take m) E L) :
    WC P n w0 (.region id l.toArray false) Q E L := fun w hw => by
  have hlt : m < l.length := by
    rcases Nat.lt_or_ge m l.length with h | h
    · exact h
    · rw [List.getElem?_eq_none h] at ho; cases ho
  refine wpIn_region ?_
  have hsz : List.range l.toArray.size = List.range' 0 (l.take m).length ++ m :: List.range' (m + 1) (l.drop (m + 1)).length := by
    obtain ⟨q, hq⟩ : ∃ q, l.length = m + (1 + q) := ⟨l.length - (m + 1), by omega⟩
    rw [List.range_eq_range', List.size_toArray, List.length_take, List.length_drop, hq, Nat.min_eq_left (by omega), show m + (1 + q) - (m + 1) = q from by omega, ← List.range'_append_1, ← List.range'_append_1]
    simp
  rw [hsz]
  have hf' : fitsR n l.toArray.toList = true := by simpa using hf
  refine opsIn_fen (X := fun a' w' => ∃ E' L', a' = actOf n E' ∧ H w0 L' w' ∧ ∃ vals : List Value, Ev n E' x (.func (.yield r) #[] #[]) ∧ Evs n E' args vals ∧ ∀ w, H w0 L' w → YieldAt Fence.wide 0 P r vals.toArray w fun e w' => ∃ v L'', e = .returned v ∧ H w0 L'' w' ∧ WL P n w0 l.toArray (Q .normal) (l.drop (m + 1)) (E'.put o.dst v) L'') hf' liftQ_in ?_ _ _ _
    (wpOps_wpList (fun j hj => by
      rw [List.getElem?_toArray, Nat.zero_add, List.getElem?_take, if_pos (by rw [List.length_take] at hj; omega)]) (h w hw _ fun E' L' w' hH hK => ⟨E', L', rfl, hH, hK⟩))
  rintro a' w' ⟨E', L', rfl, hH, vals, hx, hv, hY⟩
  unfold wpOpsIn
  rw [List.getElem?_toArray, ho]
  simp only
  rw [if_pos (by simp [Region.wanted, hg])]
  refine ⟨fun _ _ => fen_fn _, ?_⟩
  rw [semAt_fen (fitsR_mem hf (List.mem_of_getElem? ho))]
  obtain ⟨fn, tmps, assign, body, hy, hR⟩ := hY w' hH
  have hm : args.toArray.map (actOf n E').eval = vals.toArray := by rw [List.map_toArray, hv.map]
  have hx' : (actOf n E').eval x = .func (.yield r) #[] #[] := hx
  have hrun : (execOp (actOf n E').eval o).run P w' = .ok (.round r fn tmps assign body) w' := by
    unfold execOp
    simp only [hop, resolve, hx', Deferred.ofValue, Sem.run_bind, Sem.run_pure, Result.andThen_ok]
    rw [hm]
    simp only [Array.append_empty, Array.empty_append, invoke, hy]
  rw [hrun]
  refine ⟨fun h => (fen_depth h).elim, roundIn_fen (hR.mono ?_)⟩
  rintro e w2 ⟨v, L'', rfl, hH2, hW⟩
  show wpOpsIn _ _ _ _ _ _ _ _
  rw [actOf_put]
  have := opsIn_fen (n := n) (m := 0) (idx2 := []) (X := liftQ n w0 Q .normal) (Q := liftQ n w0 Q) (P := P) (ops := l.toArray) hf' liftQ_in (fun a w h => h) (List.range' (m + 1) (l.drop (m + 1)).length) (actOf n (E'.put o.dst v)) w2
    (wpOps_wpList (fun j _ => by rw [List.getElem?_toArray, List.getElem?_drop]) (hW w2 hH2 _ fun E3 L3 w3 hH3 hK => ⟨E3, L3, rfl, hH3, hK⟩))
  simpa using this
end
/-! ### The statement -/
def recOf (fn : FuncId) (tmps : Array Value) (ps : Array Tmp) (assign body : Code) (D : Nat) (st : LoopState) (pe : Option Code) : Loop := { state := st, pending := pe, fn := fn, tmps := tmps, params := ps, assign := assign, body := body, defers := D }
def mark (D : Nat) : Deferred := { target := .collected D, args := #[] }
def marks (Ds : List Nat) : List Deferred := Ds.map mark
def setsL (E : Env) : List (Nat × Value) → Env
  | [] => E
  | (i, v) :: l => setsL (E.set i v) l
section
variable {P : Program} {n : Fr} {w0 w : World} {E : Env} {L : List Asrt}
theorem foldl_tmps {ro : Option Nat} {ds : List Deferred} : ∀ (ps : List (Nat × Value)) (E : Env), ps.foldl (fun (t : Array Value) (p : Nat × Value) => t.setIfInBounds p.1 p.2) (actOf n E).tmps = (actOf ⟨n.n, ro, ds⟩ (setsL E ps)).tmps
  | [], _ => rfl
  | (i, v) :: ps, E => by
    rw [List.foldl_cons]
    have := congrArg Act.tmps (actOf_put n E (some i) v)
    show List.foldl _ ((actOf n E).tmps.setIfInBounds i v) _ = _
    rw [show (actOf n E).tmps.setIfInBounds i v = (actOf n (E.set i v)).tmps from this]
    exact foldl_tmps ps (E.set i v)
/-- What a round owes: at its end, or where it returns, the record as it is there. -/
def roundQ (r : Nat) (rec : LoopState → Option Code → Loop) (T T' : List Asrt → Prop) : Exit → Post
  | .normal => fun _ L => ∃ L2, Swap (obj r (.loop (rec .busy none))) (obj r (.loop (rec .ready none))) L L2 ∧ T L2
  | .ret => fun _ L => ∃ L2, Swap (obj r (.loop (rec .busy none))) (obj r (.loop (rec .done (some .ret)))) L L2 ∧ T' L2
  | _ => fun _ _ => False
def startQ (P : Program) (n : Fr) (w0 : World) (r : Nat) (rec : LoopState → Option Code → Loop) (body : Code) (T T' : List Asrt → Prop) : Exit → Post
  | .normal => fun E L => ∃ L2, Swap (obj r (.loop (rec .ready none))) (obj r (.loop (rec .busy none))) L L2 ∧ WC P n w0 body (roundQ r rec T T') E L2
  | _ => fun _ _ => False
theorem yieldAt {fn : FuncId} {D r : Nat} {ps : List Nat} {vals : List Value} {assign body : Code} {T T' : List Asrt → Prop} (hw : H w0 L w) (hm : obj r (.loop (recOf fn (actOf n E).tmps ps.toArray assign body D .ready none)) ∈ L) (hps : vals.length = ps.length)
    (h : WC P ⟨n.n, some r, []⟩ w0 assign (startQ P ⟨n.n, some r, []⟩ w0 r (recOf fn (actOf n E).tmps ps.toArray assign body D) body T T') (setsL E (ps.zip vals)) L) :
    YieldAt Fence.wide 0 P r vals.toArray w fun e w' => (e = .returned (.bool true) ∧ ∃ L2, T L2 ∧ H w0 L2 w') ∨ (e = .returned (.bool false) ∧ ∃ L2, T' L2 ∧ H w0 L2 w') := by
  refine ⟨_, _, _, _, run_yield (hw.obj hm) (show vals.toArray.size = ps.toArray.size by simpa using hps), ?_⟩
  refine roundIn_of_wpIn trivial ?_
  have ht : ((recOf fn (actOf n E).tmps ps.toArray assign body D .ready none).params.zip vals.toArray).foldl (fun (tmps : Array Value) (p : Nat × Value) => tmps.setIfInBounds p.1 p.2) (recOf fn (actOf n E).tmps ps.toArray assign body D .ready none).tmps = (actOf ⟨n.n, some r, []⟩ (setsL E (ps.zip vals))).tmps := by
    show (ps.toArray.zip vals.toArray).foldl _ (actOf n E).tmps = _
    rw [List.zip_toArray, List.foldl_toArray]
    exact foldl_tmps _ _
  have ha : ({ tmps := ((recOf fn (actOf n E).tmps ps.toArray assign body D .ready none).params.zip vals.toArray).foldl (fun (tmps : Array Value) (p : Nat × Value) => tmps.setIfInBounds p.1 p.2) (recOf fn (actOf n E).tmps ps.toArray assign body D .ready none).tmps, defers := [] } : Act) = actOf ⟨n.n, some r, []⟩ (setsL E (ps.zip vals)) := by
    rw [ht]; rfl
  show Code.wpIn _ _ _ _ _ _ _
  refine (congrArg (fun a => Code.wpIn (Fence.wide.inRound r) 0 P assign _ a w) ha).mpr ?_
  refine wpIn_mono (h w hw) ?_
  intro e a w1 hq
  cases e with
  | normal =>
    obtain ⟨E1, L1, rfl, hH, L2, hs, hb⟩ := hq
    have h1 : w1.heap[r]? = some (.loop (recOf fn (actOf n E).tmps ps.toArray assign body D .ready none)) := (hH.2.in_ _ hs.mem).1
    have hH2 := hH.putObj hs
    refine ⟨_, run_beginRound h1 rfl, wpIn_mono (hb _ hH2) ?_⟩
    intro e a w2 hq
    cases e with
    | normal =>
      obtain ⟨E3, L3, rfl, hH3, L4, hs4, hT⟩ := hq
      have h3 : w2.heap[r]? = some (.loop (recOf fn (actOf n E).tmps ps.toArray assign body D .busy none)) := (hH3.2.in_ _ hs4.mem).1
      exact ⟨_, _, run_endRound none h3, .inl ⟨rfl, L4, hT, hH3.putObj hs4⟩⟩
    | ret =>
      obtain ⟨E3, L3, rfl, hH3, L4, hs4, hT⟩ := hq
      have h3 : w2.heap[r]? = some (.loop (recOf fn (actOf n E).tmps ps.toArray assign body D .busy none)) := (hH3.2.in_ _ hs4.mem).1
      exact ⟨_, _, run_endRound (some .ret) h3, .inr ⟨rfl, L4, hT, hH3.putObj hs4⟩⟩
    | exit i => obtain ⟨_, _, _, _, hf⟩ := hq; exact hf.elim
    | _ => exact hq.elim
  | ret => obtain ⟨_, _, _, _, hf⟩ := hq; exact hf.elim
  | exit i => obtain ⟨_, _, _, _, hf⟩ := hq; exact hf.elim
  | _ => exact hq.elim
theorem wpF_rangeFunc {g : Operand} {ps : Array Nat} {assign body : Code} {gf : FuncId} {lb : Array Value} {R : Exit → Act → World → Prop} (hro : n.ro = none) (hg : Ev n E g (.func (.func gf) #[] lb)) (hc : callable P gf = true) (hw : H w0 L w)
    (h : ∀ fn r D w1, H w0 (obj r (.loop (recOf fn (actOf n E).tmps ps assign body D .ready none)) :: dfr D :: L) w1 → Calls P gf (#[.func (.yield r) #[] #[]] ++ lb) w1 fun e w2 => ∃ v, e = .returned v ∧
      ((∃ L', H w0 (obj r (.loop (recOf fn (actOf n E).tmps ps assign body D .ready none)) :: dfr D :: L') w2 ∧ ∀ w3, H w0 (dfr D :: L') w3 → R .normal (actOf ⟨n.n, n.ro, mark D :: n.ds⟩ E) w3) ∨
       (∃ L', H w0 (obj r (.loop (recOf fn (actOf n E).tmps ps assign body D .done (some .ret))) :: dfr D :: L') w2 ∧ ∀ w3, H w0 (dfr D :: L') w3 → R .ret (actOf ⟨n.n, n.ro, mark D :: n.ds⟩ E) w3))) :
    wpF n P (.rangeFunc g ps assign body) R (actOf n E) w := by
  have hfen : fen n = Fence.wide := by unfold fen; rw [hro]
  unfold wpF
  rw [hfen]
  refine wpIn_rangeFunc ?_
  intro fn _
  have hg' : (actOf n E).eval g = .func (.func gf) #[] lb := hg
  have hH1 := (hw.allocObj (.deferred (some []))).allocObj (.loop (recOf fn (actOf n E).tmps ps assign body w.heap.size .ready none))
  have hsz : (w.alloc (.deferred (some []))).heap.size = w.heap.size + 1 := by simp
  rw [hsz] at hH1
  obtain ⟨W1, hW1⟩ : ∃ W1, W1 = (w.alloc (.deferred (some []))).alloc (.loop (recOf fn (actOf n E).tmps ps assign body w.heap.size .ready none)) := ⟨_, rfl⟩
  rw [← hW1] at hH1
  have hent : (Instr.enterLoop fn (actOf n E).tmps ps assign body none).run P w = .ok (w.heap.size + 1, [mark w.heap.size]) W1 := by rw [hW1]; exact run_enterLoop_outer _ _ _ _ _
  refine ⟨w.heap.size + 1, [mark w.heap.size], W1, { target := .fn (.func gf) lb, args := #[.func (.yield (w.heap.size + 1)) #[] #[]] }, W1, gf, #[.func (.yield (w.heap.size + 1)) #[] #[]] ++ lb, W1, hent, ?_, fun _ _ => trivial, ?_, fun h => by simp [Fence.wide] at h, ?_⟩
  · simp only [resolve, hg']
    simp [go_sem]
  · simp [invoke, run_callFunc hc]
  · refine callsIn_wide.2 ((h fn (w.heap.size + 1) w.heap.size _ hH1).mono ?_)
    rintro e w2 ⟨v, rfl, (⟨L', hH2, hR⟩ | ⟨L', hH2, hR⟩)⟩
    · have h1 : w2.heap[w.heap.size + 1]? = some (.loop (recOf fn (actOf n E).tmps ps assign body w.heap.size .ready none)) := hH2.obj (.head _)
      exact ⟨none, _, run_endLoop h1 (by simp [recOf]), hR _ ((hH2.putObj .head).sub (.cons _ (.refl _)))⟩
    · have h1 : w2.heap[w.heap.size + 1]? = some (.loop (recOf fn (actOf n E).tmps ps assign body w.heap.size .done (some .ret))) := hH2.obj (.head _)
      exact ⟨some .ret, _, run_endLoop h1 (by simp [recOf]), wpIn_ret (hR _ ((hH2.putObj .head).sub (.cons _ (.refl _))))⟩
/-- A range over an iterator that yields N times and never is stopped: m items are still to come in I m. -/
theorem wpF_range_it {g : Operand} {ps : List Nat} {assign body : Code} {gf : FuncId} {lb : List Value} {R : Exit → Act → World → Prop} (N : Nat) (I : Nat → List Asrt) (vals : Nat → List Value) (hro : n.ro = none) (hg : Ev n E g (.func (.func gf) #[] lb.toArray)) (hc : callable P gf = true) (hw : H w0 L w) (hL : (I N).Sublist L) (hv : ∀ m, (vals m).length = ps.length)
    (hit : ∀ (r D : Nat) (A : Asrt), (∀ m, m < N → ∀ w, H w0 (A :: dfr D :: I (m + 1)) w → YieldAt Fence.wide 0 P r (vals m).toArray w fun e w' => e = .returned (.bool true) ∧ H w0 (A :: dfr D :: I m) w') → ∀ w, H w0 (A :: dfr D :: I N) w →
      Calls P gf ((.func (.yield r) #[] #[] :: lb).toArray) w fun e w' => e = .returned (.tuple #[]) ∧ H w0 (A :: dfr D :: I 0) w')
    (round : ∀ (rec : LoopState → Option Code → Loop) (r D m : Nat), m < N → WC P ⟨n.n, some r, []⟩ w0 assign (startQ P ⟨n.n, some r, []⟩ w0 r rec body (fun L2 => (obj r (.loop (rec .ready none)) :: dfr D :: I m).Sublist L2) (fun _ => False)) (setsL E (ps.zip (vals m))) (obj r (.loop (rec .ready none)) :: dfr D :: I (m + 1)))
    (hR : ∀ (D : Nat) (w3 : World), H w0 (dfr D :: I 0) w3 → R .normal (actOf ⟨n.n, n.ro, mark D :: n.ds⟩ E) w3) : wpF n P (.rangeFunc g ps.toArray assign body) R (actOf n E) w := by
  refine wpF_rangeFunc hro hg hc (hw.sub hL) ?_
  intro fn r D w1 hw1
  have := hit r D _ (fun m hm w2 hw2 => YieldAt.mono (yieldAt hw2 (.head _) (hv m) (round (recOf fn (actOf n E).tmps ps.toArray assign body D) r D m hm)) (by
    rintro e w3 (⟨rfl, L2, hs, hH⟩ | ⟨_, _, hf, _⟩)
    · exact ⟨rfl, hH.sub hs⟩
    · exact hf.elim)) w1 hw1
  rw [show (#[Value.func (.yield r) #[] #[]] ++ lb.toArray : Array Value) = (Value.func (.yield r) #[] #[] :: lb).toArray from by simp]
  exact this.mono fun e w2 ⟨he, hH⟩ => ⟨_, he, .inl ⟨I 0, hH, fun w3 hw3 => hR D w3 hw3⟩⟩
/-! ### Functions that leave with marks -/
theorem leavesM {fn : Func} {tmps : Array Value} {R : Ending → World → Prop} {v : Value} (hv : ∀ w, (results fn tmps).run P w = .ok v w) (hR : ∀ w', H w0 L w' → R (.returned v) w') : ∀ (Ds : List Nat) (w : World), H w0 (Ds.map dfr ++ L) w → LeavesInM Fence.wide 0 P fn tmps R (marks Ds) .returning w
  | [], w, hw => ⟨v, hv w, hR w hw⟩
  | D :: Ds, w, hw => by
    have h1 : w.heap[D]? = some (.deferred (some [])) := hw.obj (.head _)
    exact ⟨by simp, .inl ⟨D, _, rfl, run_takeDeferred h1, leavesM hv hR Ds _ ((hw.putObj (o' := .deferred none) .head).sub (.cons _ (.refl _)))⟩⟩
def retM (m : Nat) (w0 : World) (R : Ending → World → Prop) (ts : List Nat) : Exit → Act → World → Prop
  | .ret, a, w => ∃ E Ds L, a = actOf ⟨m, none, marks Ds⟩ E ∧ H w0 (Ds.map dfr ++ L) w ∧ ∀ w', H w0 L w' → R (.returned (resV E ts)) w'
  | .normal, a, w => ∃ E Ds L, a = actOf ⟨m, none, marks Ds⟩ E ∧ H w0 (Ds.map dfr ++ L) w ∧ ∀ w', H w0 L w' → R (.returned (resV E ts)) w'
  | _, _, _ => False
theorem calls_wcM {m : Nat} {f : FuncId} {fn : Func} {c : Code} {args : List Value} {R : Ending → World → Prop} (ts : List Nat) (L0 : List Asrt) (hf : P.funcs[f]? = some fn) (hb : fn.body = some c) (hn : fn.ntmps = m) (hl : Nat.ble args.length m = true)
    (hres : fn.results = (ts.map ResultVar.tmp).toArray) (htn : (ts.all fun t => Nat.blt t m) = true) (h3 : Nat.ble ts.length 3 = true) (hw : H w0 L0 w) (h : wpF ⟨m, none, []⟩ P c (retM m w0 R ts) (actOf ⟨m, none, []⟩ (argE args)) w) : Calls P f args.toArray w R := by
  refine callsIn_wide.1 (callsIn_of_wp_marks (F := Fence.wide) (n := 0) hf hb trivial ?_)
  rw [hn, entry_frame args (Nat.le_of_ble_eq_true hl)]
  refine wpIn_mono h ?_
  intro e a w' hq
  cases e with
  | normal => obtain ⟨E', Ds, L', rfl, hH, hK⟩ := hq; exact leavesM (run_results (n := ⟨m, none, marks Ds⟩) hres htn h3) hK Ds w' hH
  | ret => obtain ⟨E', Ds, L', rfl, hH, hK⟩ := hq; exact leavesM (run_results (n := ⟨m, none, marks Ds⟩) hres htn h3) hK Ds w' hH
  | _ => exact hq.elim
/-! ### Codes whose end is any frame -/
def WG (P : Program) (n : Fr) (w0 : World) (c : Code) (R : Exit → Act → World → Prop) (E : Env) (L : List Asrt) : Prop := ∀ w, H w0 L w → wpF n P c R (actOf n E) w
def postOf (n : Fr) (w0 : World) (R : Exit → Act → World → Prop) : Exit → Post := fun e E L => ∀ w, H w0 L w → R e (actOf n E) w
theorem WG.of {c : Code} {R : Exit → Act → World → Prop} (h : WC P n w0 c (postOf n w0 R) E L) : WG P n w0 c R E L := fun w hw => wpIn_mono (h w hw) fun e a w' hq => by
  cases e with
  | normal => obtain ⟨E', L', rfl, hH, hK⟩ := hq; exact hK w' hH
  | ret => obtain ⟨E', L', rfl, hH, hK⟩ := hq; exact hK w' hH
  | exit i => obtain ⟨E', L', rfl, hH, hK⟩ := hq; exact hK w' hH
  | _ => exact hq.elim
theorem WG.seq {x y : Code} {R : Exit → Act → World → Prop} (h : ∀ K : Post, (∀ E L, WG P n w0 y R E L → K E L) → WC P n w0 x (seqQ K (postOf n w0 R)) E L) : WG P n w0 (.seq x y) R E L := fun w hw => by
  refine wpIn_seq (wpIn_mono (h (fun E L => WG P n w0 y R E L) (fun _ _ h => h) w hw) ?_)
  intro e a w' hq
  cases e with
  | normal => obtain ⟨E', L', rfl, hH, hK⟩ := hq; exact hK w' hH
  | ret => obtain ⟨E', L', rfl, hH, hK⟩ := hq; exact hK w' hH
  | exit i => obtain ⟨E', L', rfl, hH, hK⟩ := hq; exact hK w' hH
  | _ => exact hq.elim
theorem WG.block {id : Nat} {c : Code} {R : Exit → Act → World → Prop} (h : WG P n w0 c (Exit.inBlock id R) E L) : WG P n w0 (.block id c) R E L := fun w hw => wpIn_block (h w hw)
theorem WG.seqG {x y : Code} {R : Exit → Act → World → Prop} (h : WG P n w0 x (Exit.then (fun a w => wpF n P y R a w) R) E L) : WG P n w0 (.seq x y) R E L := fun w hw => wpIn_seq (h w hw)
def loopR {γ : Type} (n : Fr) (w0 : World) (m : Nat) (VI : γ → List (Nat × Value)) (LI : γ → List Asrt) (DI : γ → List Nat) (pre : γ → Prop) (μ : γ → Nat) (E : Env) (g : γ) (R : Exit → Act → World → Prop) : Exit → Act → World → Prop
  | .normal, a, w => ∃ g' E', Out m E' E ∧ Agree E' (VI g') ∧ a = actOf ⟨n.n, n.ro, marks (DI g')⟩ E' ∧ H w0 (LI g') w ∧ pre g' ∧ μ g' < μ g
  | e, a, w => R e a w
theorem WG.loop {c : Code} {R : Exit → Act → World → Prop} {γ : Type} (m : Nat) (VI : γ → List (Nat × Value)) (LI : γ → List Asrt) (DI : γ → List Nat) (pre : γ → Prop) (μ : γ → Nat) (g : γ) (hE : Agree E (VI g)) (hL : (LI g).Sublist L) (hD : n.ds = marks (DI g)) (hp : pre g)
    (round : ∀ g U, pre g → WG P ⟨n.n, n.ro, marks (DI g)⟩ w0 c (loopR n w0 m VI LI DI pre μ E g R) (sets (hav m E U) (VI g)) (LI g)) : WG P n w0 (.loop c) R E L := by
  intro w hw
  refine wpIn_loop_ghost (fun k a w => ∃ g U, μ g = k ∧ a = actOf ⟨n.n, n.ro, marks (DI g)⟩ (sets (hav m E U) (VI g)) ∧ H w0 (LI g) w ∧ pre g) (μ g) ⟨g, E, rfl, ?_, hw.sub hL, hp⟩ ?_
  · rw [hav_out (Out.refl m E), sets_same hE, ← hD]
  · rintro k a w' ⟨g, U, rfl, rfl, hH, hp'⟩
    refine wpIn_mono (round g U hp' w' hH) ?_
    intro e a' w'' hq
    cases e with
    | normal =>
      obtain ⟨g', E', ho, ha, rfl, hH', hp'', hm⟩ := hq
      exact ⟨μ g', hm, g', E', rfl, by rw [hav_out ho, sets_same ha], hH', hp''⟩
    | _ => exact hq
end
end Go.Proofs.Ytlcddlipcdimeaa
namespace Go.Proofs.Ytlcddlipcdimeaa
open Go.RowKit
/-- A row where it lies. -/
structure Row where
  A : Option Addr
  c : Nat
  l : List G
instance : Inhabited Row := ⟨⟨none, 0, []⟩⟩
def Row.v (r : Row) : Value := .slice r.A r.l.length r.c
def Row.own (r : Row) : Asrt := vec r.A r.l.length r.c 5 1 (bvs r.l)
/-- The elements of a matrix. -/
def els (rs : List Row) : List (List G) := rs.map Row.l
/-- The matrix lies in the world's memory. -/
def MatAt (w : World) (v : Value) (rs : List Row) : Prop := Sl w 1 v rs.length (rs.map Row.v) ∧ ∀ r ∈ rs, Sl w 1 r.v r.l.length (bvs r.l)
theorem MatAt.below {w w' : World} {v : Value} {rs : List Row} (h : MatAt w v rs) (hb : Below w.heap.size w w') : MatAt w' v rs := ⟨h.1.below hb, fun r hr => (h.2 r hr).below hb⟩
theorem nth_mem {α : Type} [Inhabited α] {l : List α} {k : Nat} (h : k < l.length) : nth l k ∈ l := by rw [nth_eq h]; exact List.getElem_mem h
theorem MatAt.row {w : World} {v : Value} {rs : List Row} (h : MatAt w v rs) {k : Nat} (hk : k < rs.length) : Sl w 1 (nth rs k).v (nth rs k).l.length (bvs (nth rs k).l) := h.2 _ (nth_mem hk)
theorem nth_map {α β : Type} [Inhabited α] [Inhabited β] (f : α → β) {l : List α} {k : Nat} (h : k < l.length) : nth (l.map f) k = f (nth l k) := by
  rw [nth_eq (by simpa using h), nth_eq h]; simp
/-- A matrix that is owned. -/
def matL (A : Option Addr) (c : Nat) (rs : List Row) : List Asrt := vec A rs.length c 24 1 (rs.map Row.v) :: rs.map Row.own
theorem MatAt.of_own {w0 w : World} {L : List Asrt} {A : Option Addr} {c : Nat} {rs : List Row} (hw : H w0 L w) (h0 : vec A rs.length c 24 1 (rs.map Row.v) ∈ L) (h : ∀ r ∈ rs, r.own ∈ L) : MatAt w (.slice A rs.length c) rs :=
  ⟨Sl.of_vec hw h0, fun r hr => Sl.of_vec hw (h r hr)⟩
theorem elR : Elem Try.prog 60 24 (.slice none 0 0) 1 24 := ⟨by kernel_rfl, by kernel_rfl, rfl, by decide⟩
theorem bvs_one (l : List G) : ∀ u ∈ bvs l, u.oneCell' = true := fun u hu => by
  obtain ⟨x, _, rfl⟩ := List.mem_map.1 hu
  rfl
theorem rowv_one (rs : List Row) : ∀ u ∈ rs.map Row.v, u.oneCell' = true := fun u hu => by
  obtain ⟨x, _, rfl⟩ := List.mem_map.1 hu
  rfl
theorem madeU (n : Nat) : (madeCells (Value.int .u8 0).cells (n * 1)).toList = bvs (List.replicate n 0) := by
  rw [show (Value.int .u8 0).cells = #[.int .u8 0] from rfl, made_one, bvs, List.map_replicate]
  rfl
end Go.Proofs.Ytlcddlipcdimeaa
namespace Go.Proofs.Ytlcddlipcdimeaa
open Go.RowKit
theorem Sl.of_vec0 {w0 w : World} {L : List Asrt} {m c sz : Nat} {A : Option Addr} {e : TypeId} {xs : List Value} (hw : H w0 L w) (hm : vec A (0 + m) c e sz ([] ++ xs) ∈ L) : Sl w sz (.slice A (0 + m) c) m xs := by
  have := Sl.of_vec hw hm
  rwa [Nat.zero_add, List.nil_append] at *
theorem Sl.of_vecE {w0 w : World} {L : List Asrt} {m m' c sz : Nat} {A : Option Addr} {e : TypeId} {xs ys : List Value} (hw : H w0 L w) (hm : vec A m c e sz xs ∈ L) (h1 : m = m') (h2 : xs = ys) : Sl w sz (.slice A m c) m' ys := by
  subst h1; subst h2; exact Sl.of_vec hw hm
section
variable {P : Program} {n : Fr} {w0 : World} {C : World → Prop} {o : Oper} {E : Env} {L : List Asrt}
theorem g_sliceA {t e : TypeId} {x : Operand} {lo hi : Option Operand} {A : Option Addr} {m k l h sz : Nat} {kl kh : IntKind} {p q : Int} (ho : o.op = .slice t x lo hi none) (hx : Ev n E x (cellPtr A k)) (ht : P.underlying t = some (.array m e)) (hs : szT P e = some sz)
    (hlo : match lo with | none => l = 0 | some y => Ev n E y (.int kl p) ∧ p = (l : Int)) (hhi : match hi with | none => h = m | some y => Ev n E y (.int kh q) ∧ q = (h : Int)) (hlh : l ≤ h) (hhc : h ≤ m) (hA : ∀ w, C w → A.isSome = true) : Gives P n C o E (.slice (subA (A.map (·.add k)) m l sz) (h - l) (m - l)) := fun w hw => by
  obtain ⟨a, rfl⟩ := Option.isSome_iff_exists.1 (hA w hw)
  have hsub : ∀ (c : Nat), (some (if c = l then a.add k else (a.add k).add (l * sz)) : Option Addr) = subA ((some a).map (·.add k)) c l sz := fun c => by unfold subA; split <;> rfl
  unfold Ev at *; unfold execOp
  cases lo with
  | none =>
    simp only at hlo
    cases hi with
    | none =>
      simp only at hhi
      subst hlo; subst hhi
      simp [ho, hx, cellPtr_some, Instr.sliceAt, Instr.sureAddr, run_underlying ht, Instr.sliceBounds, run_size hs]
      simpa using hsub _
    | some y =>
      obtain ⟨hy, rfl⟩ := hhi
      subst hlo
      simp [ho, hx, hy, cellPtr_some, Instr.sliceAt, Instr.sureAddr, run_underlying ht, Instr.sliceBounds, Instr.sliceBound, asIntOf, run_size hs, hhc]
      simpa using hsub _
  | some y =>
    obtain ⟨hy, rfl⟩ := hlo
    have hlc : (l : Int) ≤ (h : Int) := by omega
    cases hi with
    | none =>
      simp only at hhi
      subst hhi
      simp [ho, hx, hy, cellPtr_some, Instr.sliceAt, Instr.sureAddr, run_underlying ht, Instr.sliceBounds, Instr.sliceBound, asIntOf, run_size hs, hlh]
      simpa using hsub _
    | some y' =>
      obtain ⟨hy', rfl⟩ := hhi
      simp [ho, hx, hy, hy', cellPtr_some, Instr.sliceAt, Instr.sureAddr, run_underlying ht, Instr.sliceBounds, Instr.sliceBound, asIntOf, run_size hs, hhc, hlh]
      simpa using hsub _
theorem vec_cap {w : World} {A : Option Addr} {m c sz : Nat} {e : TypeId} {xs : List Value} (hw : H w0 L w) (hm : vec A m c e sz xs ∈ L) : m ≤ c := by
  obtain ⟨_, A', c', h2, h3, _⟩ := Sl.of_vec hw hm
  injection h2 with _ _ e3
  subst e3; exact h3
/-- A slice within the capacity, where that is known of the world alone. -/
theorem g_sliceC {t e : TypeId} {x : Operand} {lo hi : Option Operand} {A : Option Addr} {m c l h sz : Nat} {kl kh : IntKind} {p q : Int} (ho : o.op = .slice t x lo hi none) (hx : Ev n E x (.slice A m c)) (ht : P.underlying t = some (.slice e)) (hs : szT P e = some sz)
    (hlo : match lo with | none => l = 0 | some y => Ev n E y (.int kl p) ∧ p = (l : Int)) (hhi : match hi with | none => h = m | some y => Ev n E y (.int kh q) ∧ q = (h : Int)) (hlh : l ≤ h) (hhc : ∀ w, C w → h ≤ c) : Gives P n C o E (.slice (subA A c l sz) (h - l) (c - l)) := fun w hw =>
  g_slice (C := C) ho hx ht hs hlo hhi hlh (hhc w hw) w hw
/-- What such a slice reads. -/
theorem Sl.of_pt {w : World} {b k m l h sz : Nat} {e : TypeId} {cs : List Value} (hw : H w0 L w) (hm : pt b e cs ∈ L) (hlh : l ≤ h) (hhc : h ≤ m) (hml : m ≤ maxLen) (hk : k + m * sz ≤ cs.length) :
    Sl w sz (.slice (subA ((some (⟨b, 0, none⟩ : Addr)).map (·.add k)) m l sz) (h - l) (m - l)) (h - l) ((cs.drop (k + l * sz)).take ((h - l) * sz)) := by
  have hb : w.heap[b]? = some (.cells cs.toArray e (0, 0)) := (hw.2.in_ _ hm).1
  have h1 : h * sz ≤ m * sz := Nat.mul_le_mul_right _ hhc
  have h2 : (h - l) * sz = h * sz - l * sz := Nat.sub_mul _ _ _
  have h3 : l * sz ≤ h * sz := Nat.mul_le_mul_right _ hlh
  refine ⟨by simp; omega, _, _, rfl, by omega, Nat.le_trans (Nat.sub_le _ _) hml, fun hn => ?_⟩
  have hne : m ≠ l := by omega
  refine ⟨⟨b, k + l * sz, none⟩, by simp [subA, hne, add_off], (Array.getElem?_eq_some_iff.1 hb).1, fun j u hu => ?_⟩
  rw [add_off, cell_of_block hb]
  rw [List.getElem?_take] at hu
  split at hu
  · rw [List.getElem?_drop] at hu; exact hu
  · cases hu
theorem Sl.of_ptE {w : World} {b k m l h sz m' : Nat} {e : TypeId} {cs ys : List Value} (hw : H w0 L w) (hm : pt b e cs ∈ L) (hlh : l ≤ h) (hhc : h ≤ m) (hml : m ≤ maxLen) (hk : k + m * sz ≤ cs.length) (h1 : h - l = m') (h2 : (cs.drop (k + l * sz)).take ((h - l) * sz) = ys) :
    Sl w sz (.slice (subA ((some (⟨b, 0, none⟩ : Addr)).map (·.add k)) m l sz) (h - l) (m - l)) m' ys := by
  subst h1; subst h2; exact Sl.of_pt hw hm hlh hhc hml hk
end
/-! ### A region whose order is open: all of the head is waited for by the operation behind it -/
section
variable {P : Program} {C : World → Prop} {l : List Oper} {m : Nat}
def tailOk2 (l : List Oper) (m : Nat) : Bool :=
  headOk l m && decide (m ≤ l.length) && ((List.range m).all fun i => (List.range (m + 1)).any fun j => decide (i < j) && Region.waitsFor .any l.toArray j i) &&
  ((List.range l.length).all fun t => decide (t ≤ m) || (List.range t).any fun t' => decide (m ≤ t') && Region.waitsFor .any l.toArray t t') && Region.lexB .any (l.take m).toArray
theorem not_ready2 (h : ((List.range m).all fun i => (List.range (m + 1)).any fun j => decide (i < j) && Region.waitsFor .any l.toArray j i) = true)
    (h2 : ((List.range l.length).all fun t => decide (t ≤ m) || (List.range t).any fun t' => decide (m ≤ t') && Region.waitsFor .any l.toArray t t') = true)
    {marks : Array Bool} (inv : HeadInv .any l.toArray m marks) {i : Nat} (hi : i < m) (hun : marks.getD i false = false) (t : Nat) (ht : m ≤ t) : t ∉ Region.ready .any l.toArray marks := by
  intro hr
  obtain ⟨_, ot, hot, hall⟩ := mem_ready.1 hr
  have htl : t < l.length := by have := (Array.getElem?_eq_some_iff.1 hot).1; simpa using this
  rcases Nat.lt_or_ge m t with hmt | hmt
  · have h3 := List.all_eq_true.1 h2 t (List.mem_range.2 htl)
    simp only [Bool.or_eq_true, decide_eq_true_eq] at h3
    rcases h3 with h3 | h3
    · omega
    · obtain ⟨t', ht', h4⟩ := List.any_eq_true.1 h3
      simp only [Bool.and_eq_true, decide_eq_true_eq] at h4
      obtain ⟨o', ho', e, he, hb, hon⟩ := Region.waitsFor_spec h4.2
      have : o' = ot := Option.some.inj (ho'.symm.trans hot)
      subst this
      have hl := hall e he hb
      rw [hon, getD_both (inv.tail t' h4.1 (by have := List.mem_range.1 ht'; simp; omega))] at hl
      cases hl
  · obtain rfl : t = m := by omega
    have key : ∀ (d i : Nat), t - i = d → i < t → marks.getD i false = false → False := by
      intro d
      induction d using Nat.strongRecOn with
      | _ d ih =>
        intro i hd hi hun
        obtain ⟨j, hj, hj2⟩ := List.any_eq_true.1 (List.all_eq_true.1 h i (List.mem_range.2 hi))
        simp only [Bool.and_eq_true, decide_eq_true_eq] at hj2
        obtain ⟨oj, hoj, e, he, hb, hon⟩ := Region.waitsFor_spec hj2.2
        have hjm := List.mem_range.1 hj
        rcases Nat.lt_or_ge j t with hjt | hjt
        · refine ih (t - j) (by omega) j rfl hjt ?_
          cases hmj : marks.getD j false with
          | false => rfl
          | true =>
            have := inv.closed j oj hoj hmj e he hb
            rw [hon, hun] at this
            cases this
        · obtain rfl : j = t := by omega
          have : oj = ot := Option.some.inj (hoj.symm.trans hot)
          subst this
          have hl := hall e he hb
          rw [hon, hun] at hl
          cases hl
    exact key _ i rfl hi hun
theorem wpAny_head2 {Q : Exit → Act → World → Prop} {g : Nat} (hg : l.length = m + g) (hok : headOk l m = true)
    (hnr : ∀ marks, HeadInv .any l.toArray m marks → ∀ i, i < m → marks.getD i false = false → ∀ t, m ≤ t → t ∉ Region.ready .any l.toArray marks) :
    ∀ (f : Nat) (s : Array Bool) (a : Act) (w : World), C w → s.size = m → left s = f → HeadInv .any l.toArray m (ext s g) →
      wpAnyQ P .any (l.take m).toArray C (fun a' => ∀ w', C w' → wpAny P .any l.toArray Q g (marksAt m g) a' w') f s a → wpAny P .any l.toArray Q (f + g) (ext s g) a w
  | 0, s, a, w, hC, hs, hl, _, h => by
    have hall : ext s g = marksAt m g := by unfold ext marksAt; rw [all_listed hl, hs]
    rw [Nat.zero_add, hall]
    exact h.2 w hC
  | f + 1, s, a, w, hC, hs, hl, inv, h => by
    rw [show f + 1 + g = (f + g) + 1 from by omega]
    obtain ⟨i0, hi0, hr0⟩ := some_ready (s := s) hs hok (by omega)
    have hr0' := (ready_head (g := g) hs (by omega) hok hi0).2 hr0
    refine ⟨fun h1 => (by rw [h1] at hr0'; cases hr0'), fun i hi => ?_⟩
    have him : i < m := by
      rcases Nat.lt_or_ge i m with h1 | h1
      · exact h1
      · exact absurd hi (hnr _ inv i0 hi0 (getD_both (mem_ready.1 hr0').1) i h1)
    have hri := (ready_head (g := g) hs (by omega) hok him).1 hi
    have hun := (mem_ready.1 hri).1
    refine wpOp_head hok him (wpOp_of_qOp hC (fun a' w' hw' hk => ?_) (h.2 i hri))
    rw [ext_set (by omega)]
    refine wpAny_head2 hg hok hnr f _ a' w' hw' (by simpa using hs) (by have := left_set (s := s) (i := i) (by omega) hun; omega) ?_ hk
    rw [← ext_set (by omega)]
    exact inv.set hi him
theorem wp_region_split2 {n : Fr} {id : Nat} {Q : Exit → Act → World → Prop} {a : Act} {w : World} (hf : fitsR n l = true) (hQ : ¬ LetsOut Q) (hm : P.follows .mixedOrders = true) (hB : tailOk2 l m = true) (hC : C { w with drawn := w.drawn + 1 })
    (h : wpQuiet P (l.take m).toArray C (fun a' => ∀ w', C w' → wpAny P .any l.toArray Q (l.length - m) (marksAt m (l.length - m)) a' w') (l.take m) a) : wpF n P (.region id l.toArray true) Q a w := by
  simp only [tailOk2, Bool.and_eq_true, decide_eq_true_eq] at hB
  obtain ⟨⟨⟨⟨hok, hlt⟩, hsk⟩, hch⟩, hlex⟩ := hB
  simp only [Region.lexB, Bool.and_eq_true] at hlex
  have htl : (l.take m).length = m := by simp; omega
  have hq := wpAnyQ_lex (C := C) (md := .any) hlex.1 (l.take m) 0 (Array.replicate m false) a (by simp) (by have := hlex.2; simpa [htl, List.length_take, Nat.min_eq_left hlt] using this) h
  rw [htl] at hq
  refine wpF_any (by simpa using hf) hQ hm ?_
  have hext : Array.replicate l.toArray.size false = ext (Array.replicate m false) (l.length - m) := by
    unfold ext
    apply Array.ext'
    simp [List.replicate_append_replicate]
    omega
  have := wpAny_head2 (C := C) (Q := Q) (g := l.length - m) (by omega) hok (fun marks inv i hi hun t ht => not_ready2 hsk hch inv hi hun t ht) m (Array.replicate m false) a _ hC (by simp) (by simp [left, List.countP_replicate]) ?_ hq
  · rw [hext]
    have e : l.toArray.size = m + (l.length - m) := by simp; omega
    rw [e]; exact this
  · rw [← hext]
    exact ⟨by simp, fun j oj _ hl => (by rw [getD_replicate_false] at hl; cases hl), fun t _ ht => getD_in (by simpa using ht) (getD_replicate_false _ _)⟩
end
section
variable {P : Program} {n : Fr} {w0 : World} {E : Env} {L : List Asrt} {Q : Exit → Post} {l : List Oper}
theorem WC.split2 (m : Nat) {id : Nat} (hf : fitsR n l = true) (hm : P.follows .mixedOrders = true) (hB : tailOk2 l m = true)
    (h : WQ P n w0 (l.take m).toArray (fun E' L' => WY P n w0 l (Q .normal) (l.length - m) (marksAt m (l.length - m)) E' L') (l.take m) E L) : WC P n w0 (.region id l.toArray true) Q E L := fun w hw => by
  refine wp_region_split2 (C := H w0 L) (m := m) hf liftQ_in hm hB hw.drew ?_
  exact h _ fun E' hT w' hw' => hT w' hw' _ (fun _ _ _ h => h) fun E'' L'' w'' hH hK => ⟨_, _, rfl, hH, hK⟩
end
end Go.Proofs.Ytlcddlipcdimeaa
namespace Go.Proofs.Ytlcddlipcdimeaa
open Go.RowKit
/-- What one list of assertions says of memory, another one says too, of no further blocks. -/
structure Imp (L M : List Asrt) : Prop where
  foot : ∀ D ∈ M, ∀ b, D.foot b → ∃ C ∈ L, C.foot b
  sep : ∀ {B : Nat} {w : World}, Sep B w L → Sep B w M
theorem Imp.h {L M : List Asrt} {w0 w : World} (h : Imp L M) (hw : H w0 L w) : H w0 M w := ⟨hw.1, h.sep hw.2⟩
theorem Imp.refl (L : List Asrt) : Imp L L := ⟨fun D hD b hb => ⟨D, hD, hb⟩, fun h => h⟩
theorem Imp.trans {L M N : List Asrt} (h : Imp L M) (h2 : Imp M N) : Imp L N :=
  ⟨fun D hD b hb => by obtain ⟨C, hC, hc⟩ := h2.foot D hD b hb; exact h.foot C hC b hc, fun hs => h2.sep (h.sep hs)⟩
theorem Imp.sub {L M : List Asrt} (h : M.Sublist L) : Imp L M := ⟨fun D hD b hb => ⟨D, h.subset hD, hb⟩, fun hs => hs.sub h⟩
theorem Imp.perm {L M : List Asrt} (h : L.Perm M) : Imp L M := ⟨fun D hD b hb => ⟨D, h.mem_iff.2 hD, hb⟩, fun hs => hs.perm h⟩
theorem Imp.cons {L M : List Asrt} {A : Asrt} (h : Imp L M) : Imp (A :: L) (A :: M) :=
  ⟨fun D hD b hb => by
    rcases List.mem_cons.1 hD with rfl | hD
    · exact ⟨_, .head _, hb⟩
    · obtain ⟨C, hC, hc⟩ := h.foot D hD b hb; exact ⟨C, .tail _ hC, hc⟩,
   fun ⟨h1, h2, h3, h4⟩ => ⟨h1, h2, fun C hC b hb hc => by obtain ⟨D, hD, hd⟩ := h.foot C hC b hc; exact h3 D hD b hb hd, h.sep h4⟩⟩
theorem Sep.raise {B : Nat} {w : World} : ∀ {M : List Asrt}, Sep 0 w M → (∀ D ∈ M, ∀ b, D.foot b → B ≤ b) → Sep B w M
  | [], _, _ => trivial
  | A :: M, ⟨h1, h2, h3, h4⟩, hb => ⟨h1, fun b hf => ⟨hb A (by simp) b hf, (h2 b hf).2⟩, h3, h4.raise fun D hD => hb D (by simp [hD])⟩
theorem Sep.parts {B : Nat} {w : World} : ∀ {M L : List Asrt}, Sep B w (M ++ L) → Sep B w M ∧ Sep B w L ∧ ∀ A ∈ M, ∀ C ∈ L, ∀ b, A.foot b → C.foot b → False
  | [], _, h => ⟨trivial, h, by simp⟩
  | A :: M, L, ⟨h1, h2, h3, h4⟩ => by
    obtain ⟨q1, q2, q3⟩ := h4.parts
    refine ⟨⟨h1, h2, fun C hC => h3 C (by simp [hC]), q1⟩, q2, fun D hD C hC b => ?_⟩
    rcases List.mem_cons.1 hD with rfl | hD
    · exact h3 C (by simp [hC]) b
    · exact q3 D hD C hC b
/-- Several assertions as one. -/
def bun (M : List Asrt) : Asrt where
  foot b := ∃ D ∈ M, D.foot b
  ok w := Sep 0 w M
  loc w w' h hw := by
    induction M with
    | nil => trivial
    | cons A M ih =>
      obtain ⟨h1, h2, h3, h4⟩ := hw
      refine ⟨A.loc w w' (fun b hb => h b ⟨A, by simp, hb⟩) h1, fun b hb => ⟨Nat.zero_le _, ?_⟩, h3, ih (fun b ⟨D, hD, hb⟩ => h b ⟨D, by simp [hD], hb⟩) h4⟩
      have h5 := h b ⟨A, by simp, hb⟩
      rw [Array.getElem?_eq_getElem (h2 b hb).2] at h5
      exact (Array.getElem?_eq_some_iff.1 h5).1
theorem Imp.unbun (M L : List Asrt) : Imp (bun M :: L) (M ++ L) :=
  ⟨fun D hD b hb => by
    rcases List.mem_append.1 hD with h | h
    · exact ⟨_, .head _, D, h, hb⟩
    · exact ⟨D, .tail _ h, hb⟩,
   fun ⟨h1, h2, h3, h4⟩ => (Sep.raise h1 fun D hD b hb => (h2 b ⟨D, hD, hb⟩).1).append h4 fun A hA C hC b hb hc => h3 C hC b ⟨A, hA, hb⟩ hc⟩
theorem Imp.bun (M L : List Asrt) : Imp (M ++ L) (bun M :: L) :=
  ⟨fun D hD b hb => by
    rcases List.mem_cons.1 hD with rfl | h
    · obtain ⟨C, hC, hc⟩ := hb; exact ⟨C, List.mem_append_left _ hC, hc⟩
    · exact ⟨D, List.mem_append_right _ h, hb⟩,
   fun hs => by
    obtain ⟨q1, q2, q3⟩ := hs.parts
    exact ⟨q1.mono (Nat.zero_le _), fun b ⟨D, hD, hb⟩ => (q1.in_ D hD).2 b hb, fun C hC b ⟨D, hD, hb⟩ hc => q3 D hD C hC b hb hc, q2⟩⟩
theorem Swap.perms {A A' : Asrt} {L L' : List Asrt} (h : Swap A A' L L') : ∃ L1, L.Perm (A :: L1) ∧ L'.Perm (A' :: L1) := by
  induction h with
  | head => exact ⟨_, .refl _, .refl _⟩
  | tail _ ih => obtain ⟨L1, h1, h2⟩ := ih; exact ⟨_ :: L1, (List.Perm.cons _ h1).trans (List.Perm.swap _ _ _), (List.Perm.cons _ h2).trans (List.Perm.swap _ _ _)⟩
section
variable {P : Program} {n : Fr} {w0 : World} {ops : Array Oper} {K : Post} {o : Oper} {rest : List Oper} {E : Env} {L M : List Asrt} {Q : Exit → Post}
theorem WC.imp {c : Code} (h : Imp L M) (k : WC P n w0 c Q E M) : WC P n w0 c Q E L := fun w hw => k w (h.h hw)
theorem WL.imp {l : List Oper} (h : Imp L M) (k : WL P n w0 ops K l E M) : WL P n w0 ops K l E L := fun w hw => k w (h.h hw)
theorem WL1.imp (h : Imp L M) (k : WL1 P n w0 ops K o rest E M) : WL1 P n w0 ops K o rest E L := fun w hw => k w (h.h hw)
theorem WC.seqI {x y : Code} {γ : Type} (m : Nat) (VI : γ → List (Nat × Value)) (LI : γ → List Asrt) (h1 : WC P n w0 x (seqQ (fun E' L' => ∃ g, Out m E' E ∧ Agree E' (VI g) ∧ Imp L' (LI g)) Q) E L)
    (h2 : ∀ g U, WC P n w0 y Q (sets (hav m E U) (VI g)) (LI g)) : WC P n w0 (.seq x y) Q E L := by
  refine WC.seq fun K hK w hw => wpMono ?_ (h1 w hw)
  intro e a w' hq
  cases e with
  | normal =>
    obtain ⟨E', L', rfl, hH, g, ho, ha, hs⟩ := hq
    refine ⟨E', LI g, rfl, hs.h hH, hK _ _ ?_⟩
    have := h2 g E'
    rwa [hav_out ho, sets_same ha] at this
  | _ => exact hq
theorem WC.loopI {c : Code} {γ : Type} (m : Nat) (VI : γ → List (Nat × Value)) (LI : γ → List Asrt) (pre : γ → Prop) (μ : γ → Nat) (g : γ) (hE : Agree E (VI g)) (hL : Imp L (LI g)) (hp : pre g)
    (round : ∀ g U, pre g → WC P n w0 c (seqQ (fun E' L' => ∃ g', Out m E' E ∧ Agree E' (VI g') ∧ Imp L' (LI g') ∧ pre g' ∧ μ g' < μ g) Q) (sets (hav m E U) (VI g)) (LI g)) : WC P n w0 (.loop c) Q E L := by
  intro w hw
  refine wpIn_loop_ghost (Q := liftQ n w0 Q) (fun k a w => ∃ g U, μ g = k ∧ a = actOf n (sets (hav m E U) (VI g)) ∧ H w0 (LI g) w ∧ pre g) (μ g) ⟨g, E, rfl, ?_, hL.h hw, hp⟩ ?_
  · rw [hav_out (Out.refl m E), sets_same hE]
  · rintro k a w' ⟨g, U, rfl, rfl, hH, hp'⟩
    refine wpIn_mono (round g U hp' w' hH) ?_
    intro e a' w'' hq
    cases e with
    | normal =>
      obtain ⟨E', L', rfl, hH', g', ho, ha, hs, hp'', hm⟩ := hq
      exact ⟨μ g', hm, g', E', rfl, by rw [hav_out ho, sets_same ha], hs.h hH', hp''⟩
    | _ => exact hq
theorem WC.loopI2 {c : Code} {α β : Type} (m : Nat) (VI : α → β → List (Nat × Value)) (LI : α → β → List Asrt) (pre : α → β → Prop) (μ : α → β → Nat) (g0 : α) (g1 : β) (hE : Agree E (VI g0 g1)) (hL : Imp L (LI g0 g1)) (hp : pre g0 g1)
    (round : ∀ h0 h1 U, pre h0 h1 → WC P n w0 c (seqQ (fun E' L' => ∃ g0 g1, Out m E' E ∧ Agree E' (VI g0 g1) ∧ Imp L' (LI g0 g1) ∧ pre g0 g1 ∧ μ g0 g1 < μ h0 h1) Q) (sets (hav m E U) (VI h0 h1)) (LI h0 h1)) : WC P n w0 (.loop c) Q E L :=
  WC.loopI (γ := α × β) m (fun g => VI g.1 g.2) (fun g => LI g.1 g.2) (fun g => pre g.1 g.2) (fun g => μ g.1 g.2) (g0, g1) hE hL hp fun g U hpre w hw => wpMono (by
    intro e a w' hq
    cases e with
    | normal => obtain ⟨E', L', rfl, hH, g0, g1, h⟩ := hq; exact ⟨E', L', rfl, hH, (g0, g1), h⟩
    | _ => exact hq) (round g.1 g.2 U hpre w hw)
theorem WC.loopI3 {c : Code} {α β γ : Type} (m : Nat) (VI : α → β → γ → List (Nat × Value)) (LI : α → β → γ → List Asrt) (pre : α → β → γ → Prop) (μ : α → β → γ → Nat) (g0 : α) (g1 : β) (g2 : γ) (hE : Agree E (VI g0 g1 g2)) (hL : Imp L (LI g0 g1 g2)) (hp : pre g0 g1 g2)
    (round : ∀ h0 h1 h2 U, pre h0 h1 h2 → WC P n w0 c (seqQ (fun E' L' => ∃ g0 g1 g2, Out m E' E ∧ Agree E' (VI g0 g1 g2) ∧ Imp L' (LI g0 g1 g2) ∧ pre g0 g1 g2 ∧ μ g0 g1 g2 < μ h0 h1 h2) Q) (sets (hav m E U) (VI h0 h1 h2)) (LI h0 h1 h2)) : WC P n w0 (.loop c) Q E L :=
  WC.loopI (γ := α × β × γ) m (fun g => VI g.1 g.2.1 g.2.2) (fun g => LI g.1 g.2.1 g.2.2) (fun g => pre g.1 g.2.1 g.2.2) (fun g => μ g.1 g.2.1 g.2.2) (g0, g1, g2) hE hL hp fun g U hpre w hw => wpMono (by
    intro e a w' hq
    cases e with
    | normal => obtain ⟨E', L', rfl, hH, g0, g1, g2, h⟩ := hq; exact ⟨E', L', rfl, hH, (g0, g1, g2), h⟩
    | _ => exact hq) (round g.1 g.2.1 g.2.2 U hpre w hw)
theorem WC.loopI4 {c : Code} {α β γ δ : Type} (m : Nat) (VI : α → β → γ → δ → List (Nat × Value)) (LI : α → β → γ → δ → List Asrt) (pre : α → β → γ → δ → Prop) (μ : α → β → γ → δ → Nat) (g0 : α) (g1 : β) (g2 : γ) (g3 : δ) (hE : Agree E (VI g0 g1 g2 g3)) (hL : Imp L (LI g0 g1 g2 g3)) (hp : pre g0 g1 g2 g3)
    (round : ∀ h0 h1 h2 h3 U, pre h0 h1 h2 h3 → WC P n w0 c (seqQ (fun E' L' => ∃ g0 g1 g2 g3, Out m E' E ∧ Agree E' (VI g0 g1 g2 g3) ∧ Imp L' (LI g0 g1 g2 g3) ∧ pre g0 g1 g2 g3 ∧ μ g0 g1 g2 g3 < μ h0 h1 h2 h3) Q) (sets (hav m E U) (VI h0 h1 h2 h3)) (LI h0 h1 h2 h3)) : WC P n w0 (.loop c) Q E L :=
  WC.loopI (γ := α × β × γ × δ) m (fun g => VI g.1 g.2.1 g.2.2.1 g.2.2.2) (fun g => LI g.1 g.2.1 g.2.2.1 g.2.2.2) (fun g => pre g.1 g.2.1 g.2.2.1 g.2.2.2) (fun g => μ g.1 g.2.1 g.2.2.1 g.2.2.2) (g0, g1, g2, g3) hE hL hp fun g U hpre w hw => wpMono (by
    intro e a w' hq
    cases e with
    | normal => obtain ⟨E', L', rfl, hH, g0, g1, g2, g3, h⟩ := hq; exact ⟨E', L', rfl, hH, (g0, g1, g2, g3), h⟩
    | _ => exact hq) (round g.1 g.2.1 g.2.2.1 g.2.2.2 U hpre w hw)
theorem WC.loopI5 {c : Code} {α β γ δ ε : Type} (m : Nat) (VI : α → β → γ → δ → ε → List (Nat × Value)) (LI : α → β → γ → δ → ε → List Asrt) (pre : α → β → γ → δ → ε → Prop) (μ : α → β → γ → δ → ε → Nat) (g0 : α) (g1 : β) (g2 : γ) (g3 : δ) (g4 : ε) (hE : Agree E (VI g0 g1 g2 g3 g4)) (hL : Imp L (LI g0 g1 g2 g3 g4)) (hp : pre g0 g1 g2 g3 g4)
    (round : ∀ h0 h1 h2 h3 h4 U, pre h0 h1 h2 h3 h4 → WC P n w0 c (seqQ (fun E' L' => ∃ g0 g1 g2 g3 g4, Out m E' E ∧ Agree E' (VI g0 g1 g2 g3 g4) ∧ Imp L' (LI g0 g1 g2 g3 g4) ∧ pre g0 g1 g2 g3 g4 ∧ μ g0 g1 g2 g3 g4 < μ h0 h1 h2 h3 h4) Q) (sets (hav m E U) (VI h0 h1 h2 h3 h4)) (LI h0 h1 h2 h3 h4)) : WC P n w0 (.loop c) Q E L :=
  WC.loopI (γ := α × β × γ × δ × ε) m (fun g => VI g.1 g.2.1 g.2.2.1 g.2.2.2.1 g.2.2.2.2) (fun g => LI g.1 g.2.1 g.2.2.1 g.2.2.2.1 g.2.2.2.2) (fun g => pre g.1 g.2.1 g.2.2.1 g.2.2.2.1 g.2.2.2.2) (fun g => μ g.1 g.2.1 g.2.2.1 g.2.2.2.1 g.2.2.2.2) (g0, g1, g2, g3, g4) hE hL hp fun g U hpre w hw => wpMono (by
    intro e a w' hq
    cases e with
    | normal => obtain ⟨E', L', rfl, hH, g0, g1, g2, g3, g4, h⟩ := hq; exact ⟨E', L', rfl, hH, (g0, g1, g2, g3, g4), h⟩
    | _ => exact hq) (round g.1 g.2.1 g.2.2.1 g.2.2.2.1 g.2.2.2.2 U hpre w hw)
theorem WC.loopI6 {c : Code} {α β γ δ ε ζ : Type} (m : Nat) (VI : α → β → γ → δ → ε → ζ → List (Nat × Value)) (LI : α → β → γ → δ → ε → ζ → List Asrt) (pre : α → β → γ → δ → ε → ζ → Prop) (μ : α → β → γ → δ → ε → ζ → Nat) (g0 : α) (g1 : β) (g2 : γ) (g3 : δ) (g4 : ε) (g5 : ζ) (hE : Agree E (VI g0 g1 g2 g3 g4 g5)) (hL : Imp L (LI g0 g1 g2 g3 g4 g5)) (hp : pre g0 g1 g2 g3 g4 g5)
    (round : ∀ h0 h1 h2 h3 h4 h5 U, pre h0 h1 h2 h3 h4 h5 → WC P n w0 c (seqQ (fun E' L' => ∃ g0 g1 g2 g3 g4 g5, Out m E' E ∧ Agree E' (VI g0 g1 g2 g3 g4 g5) ∧ Imp L' (LI g0 g1 g2 g3 g4 g5) ∧ pre g0 g1 g2 g3 g4 g5 ∧ μ g0 g1 g2 g3 g4 g5 < μ h0 h1 h2 h3 h4 h5) Q) (sets (hav m E U) (VI h0 h1 h2 h3 h4 h5)) (LI h0 h1 h2 h3 h4 h5)) : WC P n w0 (.loop c) Q E L :=
  WC.loopI (γ := α × β × γ × δ × ε × ζ) m (fun g => VI g.1 g.2.1 g.2.2.1 g.2.2.2.1 g.2.2.2.2.1 g.2.2.2.2.2) (fun g => LI g.1 g.2.1 g.2.2.1 g.2.2.2.1 g.2.2.2.2.1 g.2.2.2.2.2) (fun g => pre g.1 g.2.1 g.2.2.1 g.2.2.2.1 g.2.2.2.2.1 g.2.2.2.2.2) (fun g => μ g.1 g.2.1 g.2.2.1 g.2.2.2.1 g.2.2.2.2.1 g.2.2.2.2.2) (g0, g1, g2, g3, g4, g5) hE hL hp fun g U hpre w hw => wpMono (by
    intro e a w' hq
    cases e with
    | normal => obtain ⟨E', L', rfl, hH, g0, g1, g2, g3, g4, g5, h⟩ := hq; exact ⟨E', L', rfl, hH, (g0, g1, g2, g3, g4, g5), h⟩
    | _ => exact hq) (round g.1 g.2.1 g.2.2.1 g.2.2.2.1 g.2.2.2.2.1 g.2.2.2.2.2 U hpre w hw)
theorem WC.loopI7 {c : Code} {α β γ δ ε ζ η : Type} (m : Nat) (VI : α → β → γ → δ → ε → ζ → η → List (Nat × Value)) (LI : α → β → γ → δ → ε → ζ → η → List Asrt) (pre : α → β → γ → δ → ε → ζ → η → Prop) (μ : α → β → γ → δ → ε → ζ → η → Nat) (g0 : α) (g1 : β) (g2 : γ) (g3 : δ) (g4 : ε) (g5 : ζ) (g6 : η) (hE : Agree E (VI g0 g1 g2 g3 g4 g5 g6)) (hL : Imp L (LI g0 g1 g2 g3 g4 g5 g6)) (hp : pre g0 g1 g2 g3 g4 g5 g6)
    (round : ∀ h0 h1 h2 h3 h4 h5 h6 U, pre h0 h1 h2 h3 h4 h5 h6 → WC P n w0 c (seqQ (fun E' L' => ∃ g0 g1 g2 g3 g4 g5 g6, Out m E' E ∧ Agree E' (VI g0 g1 g2 g3 g4 g5 g6) ∧ Imp L' (LI g0 g1 g2 g3 g4 g5 g6) ∧ pre g0 g1 g2 g3 g4 g5 g6 ∧ μ g0 g1 g2 g3 g4 g5 g6 < μ h0 h1 h2 h3 h4 h5 h6) Q) (sets (hav m E U) (VI h0 h1 h2 h3 h4 h5 h6)) (LI h0 h1 h2 h3 h4 h5 h6)) : WC P n w0 (.loop c) Q E L :=
  WC.loopI (γ := α × β × γ × δ × ε × ζ × η) m (fun g => VI g.1 g.2.1 g.2.2.1 g.2.2.2.1 g.2.2.2.2.1 g.2.2.2.2.2.1 g.2.2.2.2.2.2) (fun g => LI g.1 g.2.1 g.2.2.1 g.2.2.2.1 g.2.2.2.2.1 g.2.2.2.2.2.1 g.2.2.2.2.2.2) (fun g => pre g.1 g.2.1 g.2.2.1 g.2.2.2.1 g.2.2.2.2.1 g.2.2.2.2.2.1 g.2.2.2.2.2.2) (fun g => μ g.1 g.2.1 g.2.2.1 g.2.2.2.1 g.2.2.2.2.1 g.2.2.2.2.2.1 g.2.2.2.2.2.2) (g0, g1, g2, g3, g4, g5, g6) hE hL hp fun g U hpre w hw => wpMono (by
    intro e a w' hq
    cases e with
    | normal => obtain ⟨E', L', rfl, hH, g0, g1, g2, g3, g4, g5, g6, h⟩ := hq; exact ⟨E', L', rfl, hH, (g0, g1, g2, g3, g4, g5, g6), h⟩
    | _ => exact hq) (round g.1 g.2.1 g.2.2.1 g.2.2.2.1 g.2.2.2.2.1 g.2.2.2.2.2.1 g.2.2.2.2.2.2 U hpre w hw)
end
theorem own_n {w w' : World} {e : TypeId} {sz n : Nat} {v : Value} {xs : List Value} (h : w'.ownsRow w.heap.size e sz v n xs) (hb : Below w.heap.size w w') : ∃ A c, v = .slice A n c ∧ H w [vec A n c e sz xs] w' := by
  rcases h.2 with ⟨h2, h3⟩ | ⟨g, cap, cur, h2, hg, h4, h5, h6, h7, h8⟩
  · subst h3
    refine ⟨none, 0, h2, hb, ⟨h.1, .inl ⟨rfl, rfl⟩⟩, ?_, by simp, trivial⟩
    rintro b ⟨a, ha, _⟩; cases ha
  · refine ⟨some ⟨g, 0, none⟩, cap, h2, hb, ⟨h.1, .inr ⟨g, cap, cur, rfl, Nat.zero_le _, h4, h5, h6, h7, h8⟩⟩, ?_, by simp, trivial⟩
    rintro b ⟨a, ha, rfl⟩
    injection ha with ha
    subst ha
    exact ⟨hg, (Array.getElem?_eq_some_iff.1 h4).1⟩
end Go.Proofs.Ytlcddlipcdimeaa
namespace Go.Proofs.Ytlcddlipcdimeaa
open Go.RowKit
section
variable {P : Program} {n : Fr} {w0 : World} {E : Env} {L LS : List Asrt} {Q : Exit → Post} {K : Post} {l : List Oper} {f : Nat} {marks : Array Bool}
/-- What is left of a region comes up in whatever order; LS holds throughout. -/
def WH (P : Program) (n : Fr) (w0 : World) (l : List Oper) (K : Post) (LS : List Asrt) (f : Nat) (marks : Array Bool) (E : Env) (L : List Asrt) : Prop :=
  ∀ w, H w0 L w → ∀ Q : Exit → Act → World → Prop, (∀ c a w, ¬ Q (.panic c) a w) → (∀ E' L' w', H w0 L' w' → K E' L' → Q .normal (actOf n E') w') → wpAnyH P .any l.toArray Q (H w0 LS) f marks (actOf n E) w
theorem WC.held (LS : List Asrt) {id : Nat} (hf : fitsR n l = true) (hm : P.follows .mixedOrders = true) (h : WH P n w0 l (Q .normal) LS l.length (Array.replicate l.length false) E L) : WC P n w0 (.region id l.toArray true) Q E L := fun w hw => by
  refine wpF_any (by simpa using hf) liftQ_in hm ?_
  have := wpAny_of_held _ _ _ _ (h _ hw.drew (liftQ n w0 Q) (fun _ _ _ h => h) fun E' L' w' hH hK => ⟨_, _, rfl, hH, hK⟩)
  simpa using this
theorem WH.done (hr : Region.ready .any l.toArray marks = []) (h : K E L) : WH P n w0 l K LS f marks E L := fun w hw Q _ hQ => wpAnyH_done hr (hQ _ _ _ hw h) f
theorem WH.take (i : Nat) {o : Oper} {d : Nat} {v : Value} (ho : l[i]? = some o) (hs : Region.noSelect l.toArray = true) (hf : Region.free .any l.toArray marks i = true) (hr : (Region.ready .any l.toArray marks).contains i = true)
    (hg : o.guard = none) (hd : o.dst = some d) (hi : Imp L LS) (h : Gives P n (H w0 LS) o E v) (k : WH P n w0 l K LS f (marks.setIfInBounds i true) (E.set d v) L) : WH P n w0 l K LS (f + 1) marks E L := fun w hw Q hP hQ => by
  refine wpAnyH_take (i := i) (oi := o) (v := v) (by rw [List.getElem?_toArray]; exact ho) hs hf hr (fun c a w hq => absurd hq (hP _ _ _)) (.inl ⟨by simp [Region.wanted, hg], fun w' hw' => h w' hw'⟩) (hi.h hw) ?_
  rw [actOf_put, hd]
  exact k w hw Q hP hQ
theorem WH.all {rs : List Nat} (hr : Region.ready .any l.toArray marks = rs) (hne : rs ≠ []) (h : ∀ i ∈ rs, ∃ o, l[i]? = some o ∧ o.guard = none ∧ WL1 P n w0 l.toArray (fun E' L' => Imp L' LS ∧ WH P n w0 l K LS f (marks.setIfInBounds i true) E' L') o [] E L) : WH P n w0 l K LS (f + 1) marks E L := fun w hw Q hP hQ => by
  refine ⟨fun h0 => absurd (hr ▸ h0) hne, fun i hi => ?_⟩
  rw [hr] at hi
  obtain ⟨o, ho, hg, h1⟩ := h i hi
  unfold wpOp
  rw [List.getElem?_toArray, ho]
  simp only [Region.wanted, hg, if_true]
  left
  have h2 := h1 w hw (fun e a w => match e with | .normal => H w0 LS w ∧ wpAnyH P .any l.toArray Q (H w0 LS) f (marks.setIfInBounds i true) a w | e => Q e a w) (fun E' L' w' hH hK => ⟨hK.1.h hH, hK.2 w' hH Q hP hQ⟩) (fun a w => H w0 LS w ∧ wpAnyH P .any l.toArray Q (H w0 LS) f (marks.setIfInBounds i true) a w) (fun a w h => h)
  refine wp_panics ?_ h2
  intro e a w hne hq
  cases e <;> first | exact hq | exact absurd rfl hne
theorem WH.one (i : Nat) {o : Oper} (hr : Region.ready .any l.toArray marks = [i]) (ho : l[i]? = some o) (hg : o.guard = none) (h : WL1 P n w0 l.toArray (fun E' L' => Imp L' LS ∧ WH P n w0 l K LS f (marks.setIfInBounds i true) E' L') o [] E L) : WH P n w0 l K LS (f + 1) marks E L :=
  WH.all hr (by simp) fun j hj => by
    obtain rfl : j = i := by simpa using hj
    exact ⟨o, ho, hg, h⟩
theorem WH.two (i j : Nat) {o o' : Oper} (hr : Region.ready .any l.toArray marks = [i, j]) (ho : l[i]? = some o) (ho' : l[j]? = some o') (hg : o.guard = none) (hg' : o'.guard = none) (h : WL1 P n w0 l.toArray (fun E' L' => Imp L' LS ∧ WH P n w0 l K LS f (marks.setIfInBounds i true) E' L') o [] E L)
    (h' : WL1 P n w0 l.toArray (fun E' L' => Imp L' LS ∧ WH P n w0 l K LS f (marks.setIfInBounds j true) E' L') o' [] E L) : WH P n w0 l K LS (f + 1) marks E L :=
  WH.all hr (by simp) fun k hk => by
    rcases List.mem_cons.1 hk with rfl | hk
    · exact ⟨o, ho, hg, h⟩
    · obtain rfl : k = j := by simpa using hk
      exact ⟨o', ho', hg', h'⟩
/-- A read that nobody in the region turns may come first, where it is the value that is known of. -/
theorem WH.mono {K' : Post} (hk : ∀ E L, K E L → K' E L) (h : WH P n w0 l K LS f marks E L) : WH P n w0 l K' LS f marks E L := fun w hw Q hP hQ => h w hw Q hP fun E' L' w' hH hK => hQ E' L' w' hH (hk _ _ hK)
end
/-- One cell of a slice. -/
def cellA (A : Option Addr) (k : Nat) (v : Value) : Asrt where
  foot b := ∃ a, A = some a ∧ a.block = b
  ok w := ∃ a, A = some a ∧ w.cell? (a.add k) = some v
  loc w w' h hw := by
    obtain ⟨a, rfl, hc⟩ := hw
    refine ⟨a, rfl, ?_⟩
    unfold World.cell? at hc ⊢
    rw [h _ ⟨a, rfl, (addBlock a k).symm⟩]; exact hc
theorem Imp.nil (L : List Asrt) : Imp L [] := Imp.sub (List.nil_sublist _)
theorem Imp.skip {A : Asrt} {L M : List Asrt} (h : Imp L M) : Imp (A :: L) M := (Imp.sub (.cons _ (.refl _))).trans h
theorem Imp.cellc {A : Option Addr} {m c sz k : Nat} {e : TypeId} {xs : List Value} {v : Value} {L M : List Asrt} (hx : xs[k]? = some v) (h : Imp L M) : Imp (vec A m c e sz xs :: L) (cellA A k v :: M) :=
  Imp.trans (M := vec A m c e sz xs :: M) (Imp.cons h) ⟨fun D hD b hb => by
    rcases List.mem_cons.1 hD with rfl | hD
    · exact ⟨_, .head _, hb⟩
    · exact ⟨D, .tail _ hD, hb⟩, fun {B w} ⟨h1, h2, h3, h4⟩ => by
    refine ⟨?_, h2, h3, h4⟩
    obtain ⟨q1, A', c', q2, q3, q4, q5⟩ := Sl.of_own h1
    injection q2 with e1 e2 e3
    have hk : k < xs.length := (List.getElem?_eq_some_iff.1 hx).1
    have hm : 0 < m := by
      rcases Nat.eq_zero_or_pos m with h | h
      · rw [q1, h, Nat.zero_mul] at hk; omega
      · exact h
    obtain ⟨ad, e, _, hc⟩ := q5 hm
    exact ⟨ad, e1.trans e, hc k v hx⟩⟩
theorem rd_cellA {w0 : World} {L : List Asrt} {A : Option Addr} {k : Nat} {v : Value} (hm : cellA A k v ∈ L) : RdC (H w0 L) A k v := fun w hw => (hw.2.in_ _ hm).1
theorem cellA_some {w0 : World} {L : List Asrt} {A : Option Addr} {k : Nat} {v : Value} (hm : cellA A k v ∈ L) : ∀ w, H w0 L w → A.isSome = true := fun w hw => by
  obtain ⟨a, rfl, _⟩ := (hw.2.in_ _ hm).1; rfl
section
variable {P : Program} {n : Fr} {w0 : World} {E : Env} {L : List Asrt} {Q : Exit → Post}
/-- A fact that holds of every world of the class. -/
theorem WC.learn {φ : Prop} {c : Code} (h : ∀ w, H w0 L w → φ) (k : φ → WC P n w0 c Q E L) : WC P n w0 c Q E L := fun w hw => k (h w hw) w hw
theorem WL.learn {φ : Prop} {ops : Array Oper} {K : Post} {l : List Oper} (h : ∀ w, H w0 L w → φ) (k : φ → WL P n w0 ops K l E L) : WL P n w0 ops K l E L := fun w hw => k (h w hw) w hw
theorem WC.seqP {x y : Code} {γ : Type} (m : Nat) (VI : γ → List (Nat × Value)) (LI : γ → List Asrt) (pre : γ → Prop) (h1 : WC P n w0 x (seqQ (fun E' L' => ∃ g, Out m E' E ∧ Agree E' (VI g) ∧ Imp L' (LI g) ∧ pre g) Q) E L)
    (h2 : ∀ g U, pre g → WC P n w0 y Q (sets (hav m E U) (VI g)) (LI g)) : WC P n w0 (.seq x y) Q E L := by
  refine WC.seq fun K hK w hw => wpMono ?_ (h1 w hw)
  intro e a w' hq
  cases e with
  | normal =>
    obtain ⟨E', L', rfl, hH, g, ho, ha, hs, hp⟩ := hq
    refine ⟨E', LI g, rfl, hs.h hH, hK _ _ ?_⟩
    have := h2 g E' hp
    rwa [hav_out ho, sets_same ha] at this
  | _ => exact hq
end
section
variable {P : Program} {n : Fr} {w0 : World} {ops : Array Oper} {K : Post} {o : Oper} {rest : List Oper} {E : Env} {L L' : List Asrt}
/-- A copy of no more elements than there is room for. -/
theorem WL1.copyV {x y : Operand} {t t' e : TypeId} {d : Option Tmp} {A : Option Addr} {m c k : Nat} {src : Value} {xs news : List Value} (ht : P.underlying t = some (.slice e)) (hs1 : szT P e = some 1)
    (ho : o.op = .call { callee := .builtin .copy, args := #[x, y], argTypes := #[t, t'] }) (hd : o.dst = d) (hx : Ev n E x (.slice A m c)) (hy : Ev n E y src) (h0 : 0 < k) (hkm : k ≤ m)
    (hsl : ∀ w, H w0 L w → Sl w 1 src k news) (h1 : ∀ u ∈ news, u.oneCell' = true) (hs : Swap (vec A m c e 1 xs) (vec A m c e 1 (news ++ xs.drop k)) L L')
    (h : WL P n w0 ops K rest (E.put d (.int .i64 k)) L') : WL1 P n w0 ops K o rest E L := fun w hw Q hQ K' hK => by
  have hown : w.ownsRow 0 e 1 (.slice A m c) m xs := (hw.2.in_ _ hs.mem).1
  obtain ⟨e1, A2, c2, rfl, hc2, hm2, hcell⟩ := hsl w hw
  obtain ⟨ad, rfl, hadl, hcs⟩ := hcell h0
  rw [Nat.mul_one] at e1
  rcases hown.2 with ⟨h2, h3⟩ | ⟨g, cap, cur, h2, h3, h4, h5, h6, h7, h8⟩
  · omega
  · injection h2 with f1 f2 f3
    subst f1
    have hxl : xs.length = m := by have := hown.1; omega
    have hcur : m ≤ cur.size := by rw [← Nat.mul_one m, ← hown.1, ← h8]; simp; omega
    have hsz : (P.info? e).map (·.size) = some 1 := hs1
    have hrun := run_copy_row (P := P) w t t' o.type e g 0 m c ad k c2 cur e news ht hsz h4 (by show news.length = min k m; rw [Nat.min_eq_left hkm]; exact e1) hcs (by omega) h1
    unfold Ev at hx hy
    unfold Oper.wp execOp
    simp only [ho, resolve, invoke, builtin, Sem.run_bind, Sem.run_pure, Result.andThen_ok, List.map_toArray, List.map_cons, List.map_nil, hx, hy, hrun]
    show K' _ _
    rw [actOf_put, hd]
    have hgo : goInt news.length = .int .i64 k := by rw [e1]; rfl
    rw [hgo]
    refine hK _ _ (h _ ?_ Q hQ)
    refine hw.swapped hs (by simp) rfl rfl rfl (fun _ h => h) (fun i hi => setRow_other _ _ _ _ fun e => hi ⟨_, rfl, e.symm⟩) ?_
    refine ⟨?_, .inr ⟨g, cap, _, by rw [← f3], h3, setRow_heap w g cur _ e (0, 0) h4, h5, h6, ?_, ?_⟩⟩
    · rw [List.length_append, List.length_drop]; omega
    · simp only [List.size_toArray, List.length_append, List.length_take, List.length_drop, Array.length_toList]; omega
    · rw [← h8]
      simp only [Nat.zero_add, List.take_zero, List.nil_append, List.toList_toArray, e1, Nat.mul_one]
      rw [List.take_append, List.take_of_length_le (by omega), e1, List.drop_take]
end
end Go.Proofs.Ytlcddlipcdimeaa
namespace Go.Proofs.Ytlcddlipcdimeaa
open Go.RowKit
abbrev rowsA (rs : List Row) : Asrt := bun (rs.map Row.own)
def Row.put (r : Row) (j : Nat) (x : G) : Row := { r with l := r.l.set j x }
theorem Row.put_own (r : Row) (j : Nat) (x : G) : (r.put j x).own = vec r.A r.l.length r.c 5 1 ((bvs r.l).set j (bv x)) := by
  have h : (bvs r.l).set j (bv x) = bvs (r.l.set j x) := by unfold bvs; rw [List.map_set]
  rw [h, Row.own, Row.put, List.length_set]
theorem Row.put_v (r : Row) (j : Nat) (x : G) : (r.put j x).v = r.v := by rw [Row.v, Row.v, Row.put, List.length_set]
theorem nth_eq' {α : Type} [Inhabited α] {l : List α} {k : Nat} (h : k < l.length) : nth l k = l[k] := nth_eq h
theorem set_parts {α : Type} [Inhabited α] {l : List α} {k : Nat} (a : α) (h : k < l.length) : l.set k a = l.take k ++ a :: l.drop (k + 1) ∧ l = l.take k ++ nth l k :: l.drop (k + 1) := by
  refine ⟨by rw [List.set_eq_take_append_cons_drop, if_pos h], ?_⟩
  rw [nth_eq' h, List.getElem_cons_drop, List.take_append_drop]
theorem own_focus {rs : List Row} {k : Nat} (L : List Asrt) (hk : k < rs.length) : (rs.map Row.own ++ L).Perm ((nth rs k).own :: ((rs.take k ++ rs.drop (k + 1)).map Row.own ++ L)) := by
  have h := (set_parts (default : Row) hk).2
  refine List.Perm.trans (List.Perm.append_right L (List.Perm.map Row.own (?_ : rs.Perm (nth rs k :: (rs.take k ++ rs.drop (k + 1)))))) (.refl _)
  conv => lhs; rw [h]
  exact List.perm_middle
theorem own_unfocus {rs : List Row} {k : Nat} (r : Row) (L : List Asrt) (hk : k < rs.length) : (r.own :: ((rs.take k ++ rs.drop (k + 1)).map Row.own ++ L)).Perm ((rs.set k r).map Row.own ++ L) := by
  refine List.Perm.trans (.refl _) (List.Perm.append_right L (List.Perm.map Row.own (?_ : (r :: (rs.take k ++ rs.drop (k + 1))).Perm (rs.set k r))))
  rw [(set_parts r hk).1]
  exact List.perm_middle.symm
section
variable {P : Program} {n : Fr} {w0 : World} {ops : Array Oper} {K : Post} {o : Oper} {rest : List Oper} {E : Env} {L L' : List Asrt}
theorem rowA_own {w : World} {rs : List Row} {k : Nat} (hw : H w0 L w) (hm : rowsA rs ∈ L) (hk : k < rs.length) : w.ownsRow 0 5 1 (nth rs k).v (nth rs k).l.length (bvs (nth rs k).l) :=
  (Sep.in_ (hw.2.in_ _ hm).1 (nth rs k).own (List.mem_map_of_mem (nth_mem hk))).1
theorem Sl.of_rowA {w : World} {rs : List Row} {k : Nat} (hw : H w0 L w) (hm : rowsA rs ∈ L) (hk : k < rs.length) : Sl w 1 (nth rs k).v (nth rs k).l.length (bvs (nth rs k).l) := Sl.of_own (rowA_own hw hm hk)
theorem rowA_some {rs : List Row} {k : Nat} (hm : rowsA rs ∈ L) (hk : k < rs.length) (hj : 0 < (nth rs k).l.length) : ∀ w, H w0 L w → (nth rs k).A.isSome = true := fun _ hw => sl_some (Sl.of_rowA hw hm hk) (by omega)
theorem rowA_cap {w : World} {rs : List Row} {k : Nat} (hw : H w0 L w) (hm : rowsA rs ∈ L) (hk : k < rs.length) : (nth rs k).l.length ≤ (nth rs k).c := by
  obtain ⟨_, A', c', h2, h3, _⟩ := Sl.of_rowA hw hm hk
  unfold Row.v at h2
  injection h2 with _ _ e3
  omega
theorem rd_rowA {rs : List Row} {k j : Nat} (hm : rowsA rs ∈ L) (hk : k < rs.length) (hj : j < (nth rs k).l.length) : RdC (H w0 L) (nth rs k).A (j * 1) (bv (nth (nth rs k).l j)) := fun w hw => by
  have h := Sl.of_rowA hw hm hk
  obtain ⟨h1, A', c', h2, h3, h4, h5⟩ := h
  unfold Row.v at h2
  injection h2 with e1 e2 e3
  obtain ⟨ad, e, hl, hc⟩ := h5 (by omega)
  exact ⟨ad, e1.trans e, hc _ _ (by rw [Nat.mul_one, bvs, List.getElem?_map, nth_get hj]; rfl)⟩
theorem MatAt.of_rowsA {w : World} {A : Option Addr} {c : Nat} {rs : List Row} (hw : H w0 L w) (h0 : vec A rs.length c 24 1 (rs.map Row.v) ∈ L) (h : rowsA rs ∈ L) : MatAt w (.slice A rs.length c) rs :=
  ⟨Sl.of_vec hw h0, fun r hr => by
    obtain ⟨k, hk, rfl⟩ := List.getElem_of_mem hr
    have := Sl.of_rowA hw h hk
    rwa [nth_eq' hk] at this⟩
theorem WL1.storeRow {t : TypeId} {x y : Operand} {rs : List Row} {k j i : Nat} {g : G} {v : Value} {A' : Option Addr} (ho : o.op = .store t x y) (hd : o.dst = none) (hx : Ev n E x (cellPtr A' i)) (hA : A' = (nth rs k).A) (hi : i = j * 1) (hy : Ev n E y v) (hg : v = bv g) (ht : szT P t = some 1) (hk : k < rs.length) (hj : j < (nth rs k).l.length)
    (hs : Swap (rowsA rs) (rowsA (rs.set k ((nth rs k).put j g))) L L') (h : WL P n w0 ops K rest E L') : WL1 P n w0 ops K o rest E L := by
  subst hg; subst hA
  obtain ⟨L1, p1, p2⟩ := hs.perms
  refine WL1.imp (((Imp.perm p1).trans (Imp.unbun _ _)).trans (Imp.perm (own_focus L1 hk))) ?_
  refine WL1.storeV1 (m := (nth rs k).l.length) (c := (nth rs k).c) (e := 5) (sz := 1) (xs := bvs (nth rs k).l) ho hd hx hy ht rfl (by rw [hi]; simpa using hj) .head ?_
  refine WL.imp ?_ h
  have e1 : vec (nth rs k).A (nth rs k).l.length (nth rs k).c 5 1 ((bvs (nth rs k).l).set i (bv g)) = ((nth rs k).put j g).own := by rw [Row.put_own, hi, Nat.mul_one]
  rw [e1]
  exact ((Imp.perm (own_unfocus _ L1 hk)).trans (Imp.bun _ _)).trans (Imp.perm p2.symm)
end
/-- Another list laid over the first elements. -/
def Row.copy (r : Row) (l : List G) : Row := { r with l := l ++ r.l.drop l.length }
theorem Row.copy_own (r : Row) {l : List G} (h : l.length ≤ r.l.length) : (r.copy l).own = vec r.A r.l.length r.c 5 1 (bvs l ++ (bvs r.l).drop l.length) := by
  have e1 : bvs l ++ (bvs r.l).drop l.length = bvs (l ++ r.l.drop l.length) := by unfold bvs; rw [List.map_append, List.map_drop]
  have e2 : (l ++ r.l.drop l.length).length = r.l.length := by rw [List.length_append, List.length_drop]; omega
  rw [e1, Row.own, Row.copy, e2]
theorem Row.copy_v (r : Row) {l : List G} (h : l.length ≤ r.l.length) : (r.copy l).v = r.v := by
  have e2 : (l ++ r.l.drop l.length).length = r.l.length := by rw [List.length_append, List.length_drop]; omega
  rw [Row.v, Row.v, Row.copy, e2]
theorem WL1.copyRow {P : Program} {n : Fr} {w0 : World} {ops : Array Oper} {K : Post} {o : Oper} {rest : List Oper} {E : Env} {L L' : List Asrt} {x y : Operand} {t t' : TypeId} {d : Option Tmp} {rs : List Row} {k m c : Nat} {l : List G} {src : Value} (ht : P.underlying t = some (.slice 5)) (hs1 : szT P 5 = some 1)
    (ho : o.op = .call { callee := .builtin .copy, args := #[x, y], argTypes := #[t, t'] }) (hd : o.dst = d) (hx : Ev n E x (.slice (nth rs k).A m c)) (hm : m = (nth rs k).l.length) (hc : c = (nth rs k).c) (hy : Ev n E y src) (hk : k < rs.length) (h0 : 0 < l.length) (hkm : l.length ≤ (nth rs k).l.length)
    (hsl : ∀ w, H w0 L w → Sl w 1 src l.length (bvs l)) (hs : Swap (rowsA rs) (rowsA (rs.set k ((nth rs k).copy l))) L L')
    (h : WL P n w0 ops K rest (E.put d (.int .i64 l.length)) L') : WL1 P n w0 ops K o rest E L := by
  subst hm; subst hc
  obtain ⟨L1, p1, p2⟩ := hs.perms
  have i1 := ((Imp.perm p1).trans (Imp.unbun _ _)).trans (Imp.perm (own_focus L1 hk))
  have i2 := (Imp.unbun _ _).trans (Imp.perm (own_focus L1 hk))
  refine WL1.imp i1 ?_
  refine WL1.copyV (m := (nth rs k).l.length) (c := (nth rs k).c) (xs := bvs (nth rs k).l) ht hs1 ho hd hx hy h0 hkm (fun w hw => hsl w ?_) (one_of_int .u8 (fun x : G => (x.val : Int)) l) .head (WL.imp ?_ h)
  · exact ((((Imp.perm (own_focus L1 hk).symm).trans (Imp.bun _ _))).trans (Imp.perm p1.symm)).h hw
  · rw [← Row.copy_own _ hkm]
    exact ((Imp.perm (own_unfocus _ L1 hk)).trans (Imp.bun _ _)).trans (Imp.perm p2.symm)
/-- A row takes another one's place. -/
theorem Imp.row_put {rs : List Row} {k : Nat} (r : Row) (L : List Asrt) (hk : k < rs.length) : Imp (r.own :: rowsA rs :: L) (rowsA (rs.set k r) :: L) :=
  ((Imp.cons ((Imp.unbun _ _).trans ((Imp.perm (own_focus L hk)).trans (Imp.sub (.cons _ (.refl _)))))).trans (Imp.perm (own_unfocus r L hk))).trans (Imp.bun _ _)
/-- A row joins. -/
theorem Imp.row_add (rs : List Row) (r : Row) (L : List Asrt) : Imp (r.own :: rowsA rs :: L) (rowsA (rs ++ [r]) :: L) :=
  ((Imp.cons (Imp.unbun _ _)).trans (Imp.perm (show (r.own :: (rs.map Row.own ++ L)).Perm ((rs ++ [r]).map Row.own ++ L) by rw [List.map_append, List.append_assoc]; exact List.perm_middle.symm))).trans (Imp.bun _ _)
theorem Imp.rows_perm {rs rs' : List Row} (h : rs.Perm rs') (L : List Asrt) : Imp (rowsA rs :: L) (rowsA rs' :: L) :=
  ((Imp.unbun _ _).trans (Imp.perm (List.Perm.append_right L (h.map Row.own)))).trans (Imp.bun _ _)
theorem Imp.rows_nil (L : List Asrt) : Imp L (rowsA [] :: L) := Imp.bun [] L
theorem Imp.rows_of (rs : List Row) (L : List Asrt) : Imp (rs.map Row.own ++ L) (rowsA rs :: L) := Imp.bun _ _
theorem rowsv_set {rs : List Row} {k : Nat} (r : Row) : (rs.set k r).map Row.v = (rs.map Row.v).set k r.v := List.map_set
/-- What lies behind the chosen ones. -/
theorem Imp.put2 {rs : List Row} {k : Nat} {r : Row} {L L1 L2 : List Asrt} (h1 : Take r.own L L1) (h2 : Swap (rowsA rs) (rowsA (rs.set k r)) L1 L2) (hk : k < rs.length) : Imp L L2 := by
  obtain ⟨L3, p1, p2⟩ := h2.perms
  exact (Imp.perm (h1.perm.trans (p1.cons _))).trans ((Imp.row_put r L3 hk).trans (Imp.perm p2.symm))
theorem Imp.add2 {rs : List Row} {r : Row} {L L1 L2 : List Asrt} (h1 : Take r.own L L1) (h2 : Swap (rowsA rs) (rowsA (rs ++ [r])) L1 L2) : Imp L L2 := by
  obtain ⟨L3, p1, p2⟩ := h2.perms
  exact (Imp.perm (h1.perm.trans (p1.cons _))).trans ((Imp.row_add rs r L3).trans (Imp.perm p2.symm))
end Go.Proofs.Ytlcddlipcdimeaa
namespace Go.Proofs.Ytlcddlipcdimeaa
def gsum : Nat → (Nat → G) → G
  | 0, _ => 0
  | n + 1, f => gsum n f + f n
theorem gsum_congr {n : Nat} {f g : Nat → G} (h : ∀ k, k < n → f k = g k) : gsum n f = gsum n g := by
  induction n with
  | zero => rfl
  | succ n ih => rw [gsum, gsum, ih fun k hk => h k (by omega), h n (by omega)]
theorem gsum_add (n : Nat) (f g : Nat → G) : gsum n (fun k => f k + g k) = gsum n f + gsum n g := by
  induction n with
  | zero => exact (G.add_zero 0).symm
  | succ n ih => rw [gsum, gsum, gsum, ih]; ac_rfl
theorem gsum_zero {n : Nat} {f : Nat → G} (h : ∀ k, k < n → f k = 0) : gsum n f = 0 := by
  induction n with
  | zero => rfl
  | succ n ih => rw [gsum, ih fun k hk => h k (by omega), h n (by omega), G.add_zero]
theorem mul_gsum (c : G) (n : Nat) (f : Nat → G) : c * gsum n f = gsum n (fun k => c * f k) := by
  induction n with
  | zero => exact G.mul_zero c
  | succ n ih => rw [gsum, gsum, G.mul_add, ih]
theorem gsum_mul (c : G) (n : Nat) (f : Nat → G) : gsum n f * c = gsum n (fun k => f k * c) := by
  rw [G.mul_comm, mul_gsum]; exact gsum_congr fun k _ => G.mul_comm _ _
theorem gsum_swap (n m : Nat) (f : Nat → Nat → G) : gsum n (fun i => gsum m (fun j => f i j)) = gsum m (fun j => gsum n (fun i => f i j)) := by
  induction n with
  | zero => exact (gsum_zero fun _ _ => rfl).symm
  | succ n ih =>
    show gsum n (fun i => gsum m (fun j => f i j)) + gsum m (fun j => f n j) = gsum m (fun j => gsum n (fun i => f i j) + f n j)
    rw [ih, ← gsum_add]
theorem gsum_take {n a : Nat} (ha : a < n) (f : Nat → G) : gsum n f = f a + gsum n (fun k => if k = a then 0 else f k) := by
  induction n with
  | zero => omega
  | succ n ih =>
    rw [gsum, gsum]
    by_cases h : a = n
    · subst h
      rw [if_pos rfl, G.add_zero, G.add_comm]
      congr 1
      exact gsum_congr fun k hk => by rw [if_neg (by omega)]
    · rw [ih (by omega), if_neg (by omega), G.add_assoc]
theorem gsum_one {n a : Nat} (ha : a < n) {f : Nat → G} (h : ∀ k, k < n → k ≠ a → f k = 0) : gsum n f = f a := by
  rw [gsum_take ha, gsum_zero, G.add_zero]
  intro k hk
  by_cases e : k = a
  · rw [if_pos e]
  · rw [if_neg e, h k hk e]
def dlt (i j : Nat) : G := if i = j then 1 else 0
theorem dlt_self (i : Nat) : dlt i i = 1 := if_pos rfl
theorem dlt_ne {i j : Nat} (h : i ≠ j) : dlt i j = 0 := if_neg h
theorem dlt_comm (i j : Nat) : dlt i j = dlt j i := by
  unfold dlt
  by_cases h : i = j
  · rw [if_pos h, if_pos h.symm]
  · rw [if_neg h, if_neg (fun e => h e.symm)]
theorem gsum_dlt {n i : Nat} (hi : i < n) (f : Nat → G) : gsum n (fun j => dlt i j * f j) = f i := by
  rw [gsum_one hi fun k _ hk => by rw [dlt_ne (fun e => hk e.symm), G.zero_mul], dlt_self, G.one_mul]
theorem gsum_dlt' {n i : Nat} (hi : i < n) (f : Nat → G) : gsum n (fun j => f j * dlt j i) = f i := by
  rw [gsum_one hi fun k _ hk => by rw [dlt_ne hk, G.mul_zero], dlt_self, G.mul_one]
/-- Products of three, in either order. -/
theorem gsum_assoc (p q : Nat) (a : Nat → G) (b : Nat → Nat → G) (c : Nat → G) : gsum q (fun k => gsum p (fun j => a j * b j k) * c k) = gsum p (fun j => a j * gsum q (fun k => b j k * c k)) := by
  have h1 : gsum q (fun k => gsum p (fun j => a j * b j k) * c k) = gsum q (fun k => gsum p (fun j => a j * b j k * c k)) := gsum_congr fun k _ => gsum_mul _ _ _
  rw [h1, gsum_swap]
  exact gsum_congr fun j _ => by rw [mul_gsum]; exact gsum_congr fun k _ => G.mul_assoc _ _ _
/-- More unknowns than equations: a solution that is not 0. -/
theorem hom : ∀ (q p : Nat) (A : Nat → Nat → G), q < p → ∃ x : Nat → G, (∃ k, k < p ∧ x k ≠ 0) ∧ ∀ i, i < q → gsum p (fun k => A i k * x k) = 0
  | 0, p, _, h => ⟨fun _ => 1, ⟨0, h, one_ne_zero⟩, fun i hi => absurd hi (by omega)⟩
  | q + 1, 0, _, h => absurd h (by omega)
  | q + 1, p + 1, A, h => by
    by_cases hz : ∀ i, i < q + 1 → A i p = 0
    · refine ⟨fun k => dlt k p, ⟨p, by omega, by show dlt p p ≠ 0; rw [dlt_self]; exact one_ne_zero⟩, fun i hi => ?_⟩
      rw [gsum_dlt' (by omega), hz i hi]
    · obtain ⟨r, hr, hne⟩ : ∃ r, r < q + 1 ∧ A r p ≠ 0 := by
        refine Classical.byContradiction fun hn => hz fun i hi => Classical.byContradiction fun hx => hn ⟨i, hi, hx⟩
      obtain ⟨v, hv⟩ : ∃ v, v = ginv (A r p) := ⟨_, rfl⟩
      have hv1 : A r p * v = 1 := by rw [hv]; exact mul_ginv hne
      obtain ⟨x, ⟨k0, hk0, hx0⟩, hx⟩ := hom q p (fun i k => A (if i < r then i else i + 1) k + A (if i < r then i else i + 1) p * v * A r k) (by omega)
      obtain ⟨s, hs⟩ : ∃ s, s = gsum p (fun k => A r k * x k) := ⟨_, rfl⟩
      refine ⟨fun k => if k = p then v * s else x k, ⟨k0, by omega, by show (if k0 = p then v * s else x k0) ≠ 0; rw [if_neg (by omega)]; exact hx0⟩, fun i hi => ?_⟩
      have hsum : gsum (p + 1) (fun k => A i k * (if k = p then v * s else x k)) = gsum p (fun k => A i k * x k) + A i p * (v * s) := by
        rw [gsum, if_pos rfl]
        congr 1
        exact gsum_congr fun k hk => by rw [if_neg (by omega)]
      rw [hsum]
      by_cases hir : i = r
      · subst hir
        rw [← G.mul_assoc, hv1, G.one_mul, hs, G.add_self]
      · obtain ⟨j, hj, hji⟩ : ∃ j, j < q ∧ (if j < r then j else j + 1) = i := by
          by_cases hlt : i < r
          · exact ⟨i, by omega, if_pos hlt⟩
          · exact ⟨i - 1, by omega, by rw [if_neg (by omega)]; omega⟩
        have h1 := hx j hj
        simp only [hji] at h1
        have h2 : gsum p (fun k => (A i k + A i p * v * A r k) * x k) = gsum p (fun k => A i k * x k) + A i p * v * s := by
          rw [hs, mul_gsum, ← gsum_add]
          exact gsum_congr fun k _ => by rw [G.add_mul, G.mul_assoc]
        rw [h2] at h1
        rw [← G.mul_assoc]; exact h1
/-- A factor of the identity is no narrower than it. -/
theorem rank_le {p q : Nat} {P Q : Nat → Nat → G} (h : ∀ i, i < p → ∀ j, j < p → gsum q (fun k => P i k * Q k j) = dlt i j) : p ≤ q := by
  refine Classical.byContradiction fun hn => ?_
  obtain ⟨x, ⟨k, hk, hx⟩, hQ⟩ := hom q p Q (by omega)
  refine hx ?_
  have h1 : gsum p (fun j => gsum q (fun l => P k l * Q l j) * x j) = x k := by
    have : gsum p (fun j => gsum q (fun l => P k l * Q l j) * x j) = gsum p (fun j => dlt k j * x j) := gsum_congr fun j hj => by rw [h k hk j hj]
    rw [this, gsum_dlt hk]
  rw [gsum_assoc] at h1
  rw [← h1]
  exact gsum_zero fun l hl => by rw [hQ l hl, G.mul_zero]
/-- What is an inverse on one side is one on the other. -/
theorem inv_two {n : Nat} {P Q : Nat → Nat → G} (h : ∀ i, i < n → ∀ j, j < n → gsum n (fun k => P i k * Q k j) = dlt i j) : ∀ i, i < n → ∀ j, j < n → gsum n (fun k => Q i k * P k j) = dlt i j := by
  intro i0 hi0 k hk
  refine Classical.byContradiction fun hne => ?_
  obtain ⟨z, hz⟩ : ∃ z : Nat → G, z = fun i => dlt i k + gsum n (fun j => Q i j * P j k) := ⟨_, rfl⟩
  have hz0 : z i0 ≠ 0 := fun e => hne (by rw [hz] at e; exact (G.add_cancel e).symm)
  obtain ⟨u, ⟨m, hm, hum⟩, hu⟩ := hom n (n + 1) (fun i j => if j < n then Q i j else z i) (by omega)
  have hs : ∀ i, i < n → gsum n (fun j => Q i j * u j) + z i * u n = 0 := fun i hi => by
    have := hu i hi
    rw [gsum, if_neg (by omega)] at this
    rw [← this]
    congr 1
    exact gsum_congr fun j hj => by rw [if_pos hj]
  have hPz : ∀ i, i < n → gsum n (fun l => P i l * z l) = 0 := fun i hi => by
    have e1 : gsum n (fun l => P i l * z l) = gsum n (fun l => P i l * dlt l k) + gsum n (fun l => P i l * gsum n (fun j => Q l j * P j k)) := by
      rw [← gsum_add]; exact gsum_congr fun l _ => by rw [hz, G.mul_add]
    rw [e1, gsum_dlt' hk, ← gsum_assoc]
    have e2 : gsum n (fun j => gsum n (fun l => P i l * Q l j) * P j k) = gsum n (fun j => dlt i j * P j k) := gsum_congr fun j hj => by rw [h i hi j hj]
    rw [e2, gsum_dlt hi, G.add_self]
  have hu0 : ∀ i, i < n → u i = 0 := fun i hi => by
    have e1 : gsum n (fun l => P i l * (gsum n (fun j => Q l j * u j) + z l * u n)) = 0 := gsum_zero fun l hl => by rw [hs l hl, G.mul_zero]
    have e2 : gsum n (fun l => P i l * (gsum n (fun j => Q l j * u j) + z l * u n)) = gsum n (fun l => P i l * gsum n (fun j => Q l j * u j)) + gsum n (fun l => P i l * z l) * u n := by
      rw [gsum_mul, ← gsum_add]; exact gsum_congr fun l _ => by rw [G.mul_add, G.mul_assoc]
    rw [e2, hPz i hi, G.zero_mul, G.add_zero, ← gsum_assoc] at e1
    have e3 : gsum n (fun j => gsum n (fun l => P i l * Q l j) * u j) = gsum n (fun j => dlt i j * u j) := gsum_congr fun j hj => by rw [h i hi j hj]
    rw [e3, gsum_dlt hi] at e1
    exact e1
  have hmn : m = n := Classical.byContradiction fun e => hum (hu0 m (by omega))
  subst hmn
  have := hs i0 hi0
  rw [gsum_zero fun j hj => by rw [hu0 j hj, G.mul_zero], G.zero_add] at this
  rcases mul_eq_zero_iff.1 this with e | e
  · exact hz0 e
  · exact hum e
end Go.Proofs.Ytlcddlipcdimeaa
namespace Go.Proofs.Ytlcddlipcdimeaa
open Go.RowKit
set_option maxHeartbeats 1000000 in
theorem fused_any (v1 v2 : Value) (dst src : List G) (c : G) (w : World) (hlen : dst.length = src.length) (hsz : dst.length ≤ 1000000) (h1 : Sl w 1 v1 dst.length (bvs dst)) (h2 : Sl w 1 v2 src.length (bvs src)) :
    Calls Try.prog 50 #[v1, v2, bv c] w fun e w' => ∃ v, e = .returned (.tuple #[v, iv 0]) ∧
      w'.ownsRow w.heap.size 5 1 v dst.length (bvs (gfused dst src c)) ∧ Below w.heap.size w w' := by
  obtain ⟨A1, c1, rfl, hc1, hm1, h1⟩ := h1.open_
  obtain ⟨A2, c2, rfl, hc2, hm2, h2⟩ := h2.open_
  obtain ⟨n, hn⟩ : ∃ n, n = dst.length := ⟨_, rfl⟩
  rw [← hlen, ← hn] at h2
  rw [← hn] at h1
  have ne : ((n : Int) != (n : Int)) = false := by simp
  have H : dst.length = n ∧ src.length = n := ⟨hn.symm, by omega⟩
  rw [← hlen, ← hn]
  clear hlen
  have HN := Lib.hid hn
  have HL := Lib.hid H
  rw [← hn] at hsz
  clear hn H
  go_enter Try.func50, Try.ntmps50
  go_wp2_with (at_make; refine wpList_make elB rfl _ _ rfl _ _ n rfl rfl (by omega) (by unfold maxLen; omega) ?_; intro w1 hown hb1)
  have hb1' := hb1
  have HF : Hid ((bvs (gfused dst src c)).length = n) := by show _ = _; rw [bvs, List.length_map, gfused_length _ _ _ (by rw [HL.out.1, HL.out.2]), HL.out.1]
  go_loopw [20] (fun i wr => ∃ k : Nat, k ≤ n ∧ i = iv k ∧ wr.ownsRow w.heap.size 5 1 (.slice (some ⟨w.heap.size, 0, none⟩) n n) n (fillv (bvs (gfused dst src c)) (.int .u8 0) k) ∧ Below w.heap.size w wr) (fun i _ => n - (intOf i).toNat)
  case atStart => exact ⟨0, by omega, rfl, by rw [fillv_zero, HF.out]; rw [show (Value.int .u8 0).cells = #[Value.int .u8 0] from rfl, made_one] at hown; exact hown, hb1⟩
  case round =>
    obtain ⟨k, hk, rfl, hown1, hbel⟩ := hrel
    clear hown hb1 hb1'
    by_cases hlt : k < n
    · obtain ⟨ad1, u1, rfl, hu1, hl1, hx1⟩ := h1.at_ hlt
      obtain ⟨ad2, u2, rfl, hu2, hl2, hx2⟩ := h2.at_ hlt
      have hd : k < dst.length := by rw [HL.out.1]; exact hlt
      have hs : k < src.length := by rw [HL.out.2]; exact hlt
      obtain rfl : bv dst[k] = u1 := by simpa [bvs, List.getElem?_map, List.getElem?_eq_getElem hd] using hu1
      obtain rfl : bv src[k] = u2 := by simpa [bvs, List.getElem?_map, List.getElem?_eq_getElem hs] using hu2
      have hy1 := (hbel.cell (by rw [addBlock]; exact hl1)).trans hx1
      have hy2 := (hbel.cell (by rw [addBlock]; exact hl2)).trans hx2
      have hy3 := hown1.cellAt k (by omega)
      have hy4 := hown1.frozenAt k
      have hfr := fillv_rest (z := .int .u8 0) (Nat.le_refl k) (by rw [HF.out]; exact hlt)
      rw [hfr] at hy3
      have exor := G.add_val dst[k] (c * src[k])
      clear hx1 hx2 h1 h2 hfr hu1 hu2
      go_wp2_with (fail)
      refine wp_region_still_tail 14 fol (by kernel_rfl) ?_
      simp only [List.take_succ_cons, List.take_zero, List.drop_succ_cons, List.drop_zero]
      repeat (first | still_step | still_call (still_of (mul_any _ _ _)))
      refine wpStill_nil ?_
      change wpList _ _ _ _ _ wr.drew
      go_wp2_with (fail)
      go_roundw
      case rel =>
        have hst := hown1.stored k (.int .u8 ((dst[k] + c * src[k]).val : Int))
        refine ⟨k + 1, by omega, by go_num, ?_, ?_⟩
        · rw [← fillv_set _ _ (.int .u8 ((dst[k] + c * src[k]).val : Int)) (by rw [bvs, List.getElem?_map, gfused_get _ _ _ _ hd hs]; rfl)]
          exact hst.1.drew
        · exact (hbel.setCell (Nat.le_refl _) _).drew
      case measure => simp [intOf]; omega
    · obtain rfl : k = n := by omega
      have hfin := hown1
      rw [show k = (bvs (gfused dst src c)).length from HF.out.symm, fillv_all, HF.out] at hfin
      have HO := Lib.hid hfin
      clear hfin hown1
      go_wp2_with (fail)
      go_ret2
      exact ⟨_, rfl, HO.out, hbel⟩
set_option maxHeartbeats 400000 in
theorem fused_bad (v1 v2 : Value) (n m : Nat) (xs ys : List Value) (c : G) (w : World) (hne : n ≠ m) (h1 : Sl w 1 v1 n xs) (h2 : Sl w 1 v2 m ys) :
    Calls Try.prog 50 #[v1, v2, bv c] w fun e w' => e = .returned (.tuple #[.slice none 0 0, iv 1]) ∧ w = w' := by
  obtain ⟨A1, c1, rfl, hc1, hm1, h1⟩ := h1.open_
  obtain ⟨A2, c2, rfl, hc2, hm2, h2⟩ := h2.open_
  have ne : ((n : Int) != (m : Int)) = true := by rw [bne_iff_ne]; omega
  clear h1 h2 hne
  go_enter Try.func50, Try.ntmps50
  go_wp2
  go_ret2
  exact ⟨rfl, rfl⟩
end Go.Proofs.Ytlcddlipcdimeaa
namespace Go.Proofs.Ytlcddlipcdimeaa
open Go.RowKit
attribute [local irreducible] Calls
theorem nth_put {α : Type} [Inhabited α] {l : List α} {k : Nat} {a : α} (hk : k < l.length) (j : Nat) : nth (l.set k a) j = if j = k then a else nth l j := by
  unfold nth
  rw [List.getD_eq_getElem?_getD, List.getD_eq_getElem?_getD, List.getElem?_set]
  by_cases h : j = k
  · subst h; rw [if_pos rfl, if_pos hk, if_pos rfl]; rfl
  · rw [if_neg (fun e => h e.symm), if_neg h]
theorem els_len (rs : List Row) : (els rs).length = rs.length := by simp [els]
theorem els_at {rs : List Row} {k : Nat} (h : k < rs.length) : nth (els rs) k = (nth rs k).l := nth_map Row.l h
/-- A valid matrix. -/
def Good (m : List (List G)) : Prop := 1 ≤ m.length ∧ m.length ≤ 64 ∧ 1 ≤ (nth m 0).length ∧ (nth m 0).length ≤ 64 ∧ ∀ k, k < m.length → (nth m k).length = (nth m 0).length
def goodB (m : List (List G)) : Bool := decide (1 ≤ m.length) && decide (m.length ≤ 64) && decide (1 ≤ (nth m 0).length) && decide ((nth m 0).length ≤ 64) && (List.range m.length).all fun k => decide ((nth m k).length = (nth m 0).length)
theorem goodB_iff {m : List (List G)} : goodB m = true ↔ Good m := by
  unfold goodB Good
  simp only [Bool.and_eq_true, decide_eq_true_eq, List.all_eq_true, List.mem_range]
  exact ⟨fun ⟨⟨⟨⟨a, b⟩, c⟩, d⟩, e⟩ => ⟨a, b, c, d, e⟩, fun ⟨a, b, c, d, e⟩ => ⟨⟨⟨⟨a, b⟩, c⟩, d⟩, e⟩⟩
theorem goodB_no {m : List (List G)} (h : ¬ Good m) : goodB m = false := by
  cases hb : goodB m with
  | false => rfl
  | true => exact absurd (goodB_iff.1 hb) h
theorem Good.row {rs : List Row} (h : Good (els rs)) {k : Nat} (hk : k < rs.length) : (nth rs k).l.length = (nth rs 0).l.length := by
  have := h.2.2.2.2 k (by rw [els_len]; exact hk)
  rwa [els_at hk, els_at (by omega)] at this
theorem good_of {rs : List Row} (h1 : 1 ≤ rs.length) (h2 : rs.length ≤ 64) (h3 : 1 ≤ (nth rs 0).l.length) (h4 : (nth rs 0).l.length ≤ 64) (h5 : ∀ k, k < rs.length → (nth rs k).l.length = (nth rs 0).l.length) : Good (els rs) := by
  refine ⟨by rw [els_len]; exact h1, by rw [els_len]; exact h2, by rw [els_at (by omega)]; exact h3, by rw [els_at (by omega)]; exact h4, fun k hk => ?_⟩
  rw [els_len] at hk
  rw [els_at hk, els_at (by omega)]; exact h5 k hk
theorem Good.parts {rs : List Row} (h : Good (els rs)) : 1 ≤ rs.length ∧ rs.length ≤ 64 ∧ 1 ≤ (nth rs 0).l.length ∧ (nth rs 0).l.length ≤ 64 := by
  obtain ⟨h1, h2, h3, h4, _⟩ := h
  rw [els_len] at h1 h2
  rw [els_at (by omega)] at h3 h4
  exact ⟨h1, h2, h3, h4⟩
set_option maxRecDepth 20000 in
set_option maxHeartbeats 1000000 in
theorem valid_e (v : Value) (rs : List Row) (w : World) (hv : MatAt w v rs) : Calls Try.prog 45 #[v] w fun e w' => e = .returned (.bool (goodB (els rs))) ∧ Below w.heap.size w w' := by
  obtain ⟨A, c, rfl, hc, hm, hs⟩ := hv.1.open_
  unfold maxLen at hm
  by_cases h0 : 1 ≤ rs.length ∧ rs.length ≤ 64
  · obtain ⟨h1, h2⟩ := h0
    by_cases h0 : 1 ≤ (nth rs 0).l.length ∧ (nth rs 0).l.length ≤ 64
    · obtain ⟨h3, h4⟩ := h0
      refine calls_wc (args := [.slice A rs.length c]) [2] [] Try.func45 rfl Try.ntmps45 rfl rfl rfl rfl (H.refl w) ?_
      (refine WC.seq ?_; intro K hK)
      refine WC.region rfl ?_
      refine WL.want rfl (WL1.give rfl (g_assign rfl (.mk (v := .bool _) rfl rfl)) ?_)
      refine WL.nil ?_
      (refine hK _ _ ?_; clear hK)
      (refine WC.seq ?_; intro K hK)
      (refine WC.seq ?_; intro K hK)
      refine WC.region rfl ?_
      refine WL.want rfl (WL1.give rfl (g_move rfl (.mk (v := .slice _ _ _) rfl rfl)) ?_)
      refine WL.want rfl (WL1.give rfl (g_len rfl (.mk rfl rfl) rfl) ?_)
      refine WL.want rfl (WL1.give rfl (g_lt rfl (.mk rfl rfl) (.mk rfl rfl) (decide_eq_false (by omega))) ?_)
      refine WL.want rfl (WL1.give rfl (g_move rfl (.mk (v := .bool _) rfl rfl)) ?_)
      refine WL.wantG rfl rfl rfl rfl (WL1.give rfl (g_move rfl (.mk (v := .slice _ _ _) rfl rfl)) ?_)
      refine WL.wantG rfl rfl rfl rfl (WL1.give rfl (g_len rfl (.mk rfl rfl) rfl) ?_)
      refine WL.wantG rfl rfl rfl rfl (WL1.give rfl (g_gt rfl (.mk rfl rfl) (.mk rfl rfl) (decide_eq_false (by omega))) ?_)
      refine WL.want rfl (WL1.give rfl (g_pickF rfl (.mk rfl rfl) (.mk (v := .bool _) rfl rfl)) ?_)
      refine WL.want rfl (WL1.give rfl (g_move rfl (.mk (v := .bool _) rfl rfl)) ?_)
      refine WL.wantG rfl rfl rfl rfl (WL1.give rfl (g_move rfl (.mk (v := .slice _ _ _) rfl rfl)) ?_)
      refine WL.wantG rfl rfl rfl rfl (WL1.give rfl (g_indexAddr (sz := 1) rfl (.mk rfl rfl) (.mk rfl rfl) rfl rfl (show _ = ((0 : Nat) : Int) from rfl) (by omega) (fun _ _ => sl_some hs (by omega))) ?_)
      refine WL.wantG rfl rfl rfl rfl (WL1.give rfl (g_load rfl (.mk rfl rfl) rfl (rd_sl hs (get1 (by omega)))) ?_)
      refine WL.wantG rfl rfl rfl rfl (WL1.give rfl (g_len rfl (.mk rfl rfl) rfl) ?_)
      refine WL.wantG rfl rfl rfl rfl (WL1.give rfl (g_lt rfl (.mk rfl rfl) (.mk rfl rfl) (decide_eq_false (by omega))) ?_)
      refine WL.want rfl (WL1.give rfl (g_pickF rfl (.mk rfl rfl) (.mk (v := .bool _) rfl rfl)) ?_)
      refine WL.want rfl (WL1.give rfl (g_move rfl (.mk (v := .bool _) rfl rfl)) ?_)
      refine WL.wantG rfl rfl rfl rfl (WL1.give rfl (g_move rfl (.mk (v := .slice _ _ _) rfl rfl)) ?_)
      refine WL.wantG rfl rfl rfl rfl (WL1.give rfl (g_indexAddr (sz := 1) rfl (.mk rfl rfl) (.mk rfl rfl) rfl rfl (show _ = ((0 : Nat) : Int) from rfl) (by omega) (fun _ _ => sl_some hs (by omega))) ?_)
      refine WL.wantG rfl rfl rfl rfl (WL1.give rfl (g_load rfl (.mk rfl rfl) rfl (rd_sl hs (get1 (by omega)))) ?_)
      refine WL.wantG rfl rfl rfl rfl (WL1.give rfl (g_len rfl (.mk rfl rfl) rfl) ?_)
      refine WL.wantG rfl rfl rfl rfl (WL1.give rfl (g_gt rfl (.mk rfl rfl) (.mk rfl rfl) (decide_eq_false (by omega))) ?_)
      refine WL.want rfl (WL1.give rfl (g_pickF rfl (.mk rfl rfl) (.mk (v := .bool _) rfl rfl)) ?_)
      refine WL.nil ?_
      (refine hK _ _ ?_; clear hK)
      refine WC.cond_false (.mk rfl rfl) ?_
      refine WC.skip ?_
      (refine hK _ _ ?_; clear hK)
      (refine WC.seq ?_; intro K hK)
      (refine WC.seq ?_; intro K hK)
      refine WC.region rfl ?_
      refine WL.want rfl (WL1.give rfl (g_move rfl (.mk (v := .slice _ _ _) rfl rfl)) ?_)
      refine WL.want rfl (WL1.give rfl (g_len rfl (.mk rfl rfl) rfl) ?_)
      refine WL.want rfl (WL1.give rfl (g_move rfl (.mk (v := .int _ _) rfl rfl)) ?_)
      refine WL.nil ?_
      (refine hK _ _ ?_; clear hK)
      refine WC.block ?_
      refine WC.loop (2198486384660) (fun k : Nat => [(29, iv k)]) (fun _ => []) (fun k => k ≤ rs.length ∧ ∀ j, j < k → (nth rs j).l.length = (nth rs 0).l.length) (fun k => rs.length - k) 0 ⟨rfl, trivial⟩ (List.nil_sublist _) ⟨by omega, fun j hj => absurd hj (by omega)⟩ ?_
      rintro k U ⟨hk, hq⟩
      by_cases hlt : k < rs.length
      · by_cases he : (nth rs k).l.length = (nth rs 0).l.length
        · (refine WC.seq ?_; intro K hK)
          refine WC.region rfl ?_
          refine WL.want rfl (WL1.give rfl (g_lt rfl (.mk rfl rfl) (.mk rfl rfl) (decide_eq_true (by omega))) ?_)
          refine WL.nil ?_
          (refine hK _ _ ?_; clear hK)
          (refine WC.seq ?_; intro K hK)
          refine WC.cond_true (.mk rfl rfl) ?_
          refine WC.skip ?_
          (refine hK _ _ ?_; clear hK)
          (refine WC.seq ?_; intro K hK)
          refine WC.block ?_
          (refine WC.seq ?_; intro K hK)
          refine WC.region rfl ?_
          refine WL.want rfl (WL1.give rfl (g_indexAddr (sz := 1) rfl (.mk rfl rfl) (.mk rfl rfl) rfl rfl rfl (by omega) (fun _ _ => sl_some hs (by omega))) ?_)
          refine WL.want rfl (WL1.give rfl (g_load rfl (.mk rfl rfl) rfl (rd_sl hs (get1 (by omega)))) ?_)
          refine WL.want rfl (WL1.give rfl (g_assign rfl (.mk (v := .slice _ _ _) rfl rfl)) ?_)
          refine WL.nil ?_
          (refine hK _ _ ?_; clear hK)
          (refine WC.seq ?_; intro K hK)
          refine WC.region rfl ?_
          refine WL.want rfl (WL1.give rfl (g_move rfl (.mk (v := .slice _ _ _) rfl rfl)) ?_)
          refine WL.want rfl (WL1.give rfl (g_len rfl (.mk rfl rfl) rfl) ?_)
          refine WL.want rfl (WL1.give rfl (g_move rfl (.mk (v := .slice _ _ _) rfl rfl)) ?_)
          refine WL.want rfl (WL1.give rfl (g_indexAddr (sz := 1) rfl (.mk rfl rfl) (.mk rfl rfl) rfl rfl (show _ = ((0 : Nat) : Int) from rfl) (by omega) (fun _ _ => sl_some hs (by omega))) ?_)
          refine WL.want rfl (WL1.give rfl (g_load rfl (.mk rfl rfl) rfl (rd_sl hs (get1 (by omega)))) ?_)
          refine WL.want rfl (WL1.give rfl (g_len rfl (.mk rfl rfl) rfl) ?_)
          refine WL.want rfl (WL1.give rfl (g_ne rfl (.mk rfl rfl) (.mk rfl rfl) (decide_eq_false (by omega))) ?_)
          refine WL.nil ?_
          (refine hK _ _ ?_; clear hK)
          refine WC.cond_false (.mk rfl rfl) ?_
          refine WC.skip ?_
          (refine hK _ _ ?_; clear hK)
          refine WC.region rfl ?_
          refine WL.want rfl (WL1.give rfl (g_add rfl (.mk rfl rfl) (.mk rfl rfl) (IntWalk.i64_in _ (by omega))) ?_)
          refine WL.want rfl (WL1.give rfl (g_move rfl (.mk (v := .int _ _) rfl rfl)) ?_)
          refine WL.nil ?_
          refine ⟨k + 1, (by repeat (first | with_reducible exact Out.refl _ _ | refine Out.set rfl ?_ | refine Out.put rfl ?_ | refine Out.sets rfl ?_ | refine Out.hav rfl ?_ | exact Out.refl _ _)), ⟨rfl, trivial⟩, .refl _, ⟨by omega, fun j hj => ?_⟩, by omega⟩
          by_cases e : j = k
          · rw [e]; exact he
          · exact hq j (by omega)
        · (refine WC.seq ?_; intro K hK)
          refine WC.region rfl ?_
          refine WL.want rfl (WL1.give rfl (g_lt rfl (.mk rfl rfl) (.mk rfl rfl) (decide_eq_true (by omega))) ?_)
          refine WL.nil ?_
          (refine hK _ _ ?_; clear hK)
          (refine WC.seq ?_; intro K hK)
          refine WC.cond_true (.mk rfl rfl) ?_
          refine WC.skip ?_
          (refine hK _ _ ?_; clear hK)
          (refine WC.seq ?_; intro K hK)
          refine WC.block ?_
          (refine WC.seq ?_; intro K hK)
          refine WC.region rfl ?_
          refine WL.want rfl (WL1.give rfl (g_indexAddr (sz := 1) rfl (.mk rfl rfl) (.mk rfl rfl) rfl rfl rfl (by omega) (fun _ _ => sl_some hs (by omega))) ?_)
          refine WL.want rfl (WL1.give rfl (g_load rfl (.mk rfl rfl) rfl (rd_sl hs (get1 (by omega)))) ?_)
          refine WL.want rfl (WL1.give rfl (g_assign rfl (.mk (v := .slice _ _ _) rfl rfl)) ?_)
          refine WL.nil ?_
          (refine hK _ _ ?_; clear hK)
          (refine WC.seq ?_; intro K hK)
          refine WC.region rfl ?_
          refine WL.want rfl (WL1.give rfl (g_move rfl (.mk (v := .slice _ _ _) rfl rfl)) ?_)
          refine WL.want rfl (WL1.give rfl (g_len rfl (.mk rfl rfl) rfl) ?_)
          refine WL.want rfl (WL1.give rfl (g_move rfl (.mk (v := .slice _ _ _) rfl rfl)) ?_)
          refine WL.want rfl (WL1.give rfl (g_indexAddr (sz := 1) rfl (.mk rfl rfl) (.mk rfl rfl) rfl rfl (show _ = ((0 : Nat) : Int) from rfl) (by omega) (fun _ _ => sl_some hs (by omega))) ?_)
          refine WL.want rfl (WL1.give rfl (g_load rfl (.mk rfl rfl) rfl (rd_sl hs (get1 (by omega)))) ?_)
          refine WL.want rfl (WL1.give rfl (g_len rfl (.mk rfl rfl) rfl) ?_)
          refine WL.want rfl (WL1.give rfl (g_ne rfl (.mk rfl rfl) (.mk rfl rfl) (decide_eq_true (by omega))) ?_)
          refine WL.nil ?_
          (refine hK _ _ ?_; clear hK)
          refine WC.cond_true (.mk rfl rfl) ?_
          (refine WC.seq ?_; intro K hK)
          refine WC.region rfl ?_
          refine WL.want rfl (WL1.give rfl (g_assign rfl (.mk (v := .bool _) rfl rfl)) ?_)
          refine WL.nil ?_
          (refine hK _ _ ?_; clear hK)
          refine WC.ret ?_
          exact fun w' hw' => ⟨by rw [goodB_no fun h => he (h.row hlt)]; rfl, hw'.1⟩
      · obtain rfl : k = rs.length := by omega
        (refine WC.seq ?_; intro K hK)
        refine WC.region rfl ?_
        refine WL.want rfl (WL1.give rfl (g_lt rfl (.mk rfl rfl) (.mk rfl rfl) (decide_eq_false (by omega))) ?_)
        refine WL.nil ?_
        (refine hK _ _ ?_; clear hK)
        (refine WC.seq ?_; intro K hK)
        refine WC.cond_false (.mk rfl rfl) ?_
        refine WC.exit ?_
        (clear hK; refine hK _ _ ?_; clear hK)
        (refine WC.seq ?_; intro K hK)
        refine WC.region rfl ?_
        refine WL.want rfl (WL1.give rfl (g_assign rfl (.mk (v := .bool _) rfl rfl)) ?_)
        refine WL.nil ?_
        (refine hK _ _ ?_; clear hK)
        refine WC.ret ?_
        exact fun w' hw' => ⟨by rw [goodB_iff.2 (good_of h1 h2 h3 h4 hq)]; rfl, hw'.1⟩
    · have hn : goodB (els rs) = false := goodB_no fun h => h0 ⟨h.parts.2.2.1, h.parts.2.2.2⟩
      refine calls_wc (args := [.slice A rs.length c]) [2] [] Try.func45 rfl Try.ntmps45 rfl rfl rfl rfl (H.refl w) ?_
      (refine WC.seq ?_; intro K hK)
      refine WC.region rfl ?_
      refine WL.want rfl (WL1.give rfl (g_assign rfl (.mk (v := .bool _) rfl rfl)) ?_)
      refine WL.nil ?_
      (refine hK _ _ ?_; clear hK)
      (refine WC.seq ?_; intro K hK)
      (refine WC.seq ?_; intro K hK)
      refine WC.region rfl ?_
      refine WL.want rfl (WL1.give rfl (g_move rfl (.mk (v := .slice _ _ _) rfl rfl)) ?_)
      refine WL.want rfl (WL1.give rfl (g_len rfl (.mk rfl rfl) rfl) ?_)
      refine WL.want rfl (WL1.give rfl (g_lt rfl (.mk rfl rfl) (.mk rfl rfl) (decide_eq_false (by omega))) ?_)
      refine WL.want rfl (WL1.give rfl (g_move rfl (.mk (v := .bool _) rfl rfl)) ?_)
      refine WL.wantG rfl rfl rfl rfl (WL1.give rfl (g_move rfl (.mk (v := .slice _ _ _) rfl rfl)) ?_)
      refine WL.wantG rfl rfl rfl rfl (WL1.give rfl (g_len rfl (.mk rfl rfl) rfl) ?_)
      refine WL.wantG rfl rfl rfl rfl (WL1.give rfl (g_gt rfl (.mk rfl rfl) (.mk rfl rfl) (decide_eq_false (by omega))) ?_)
      refine WL.want rfl (WL1.give rfl (g_pickF rfl (.mk rfl rfl) (.mk (v := .bool _) rfl rfl)) ?_)
      refine WL.want rfl (WL1.give rfl (g_move rfl (.mk (v := .bool _) rfl rfl)) ?_)
      refine WL.wantG rfl rfl rfl rfl (WL1.give rfl (g_move rfl (.mk (v := .slice _ _ _) rfl rfl)) ?_)
      refine WL.wantG rfl rfl rfl rfl (WL1.give rfl (g_indexAddr (sz := 1) rfl (.mk rfl rfl) (.mk rfl rfl) rfl rfl (show _ = ((0 : Nat) : Int) from rfl) (by omega) (fun _ _ => sl_some hs (by omega))) ?_)
      refine WL.wantG rfl rfl rfl rfl (WL1.give rfl (g_load rfl (.mk rfl rfl) rfl (rd_sl hs (get1 (by omega)))) ?_)
      refine WL.wantG rfl rfl rfl rfl (WL1.give rfl (g_len rfl (.mk rfl rfl) rfl) ?_)
      refine WL.wantG rfl rfl rfl rfl (WL1.giveD rfl (g_lt rfl (.mk rfl rfl) (.mk rfl rfl) rfl) (fun _ => ?_) (fun _ => ?_))
      refine WL.want rfl (WL1.give rfl (g_pickF rfl (.mk rfl rfl) (.mk (v := .bool _) rfl rfl)) ?_)
      refine WL.want rfl (WL1.give rfl (g_move rfl (.mk (v := .bool _) rfl rfl)) ?_)
      refine WL.skipG rfl rfl rfl rfl rfl rfl ?_
      refine WL.skipG rfl rfl rfl rfl rfl rfl ?_
      refine WL.skipG rfl rfl rfl rfl rfl rfl ?_
      refine WL.skipG rfl rfl rfl rfl rfl rfl ?_
      refine WL.skipG rfl rfl rfl rfl rfl rfl ?_
      refine WL.want rfl (WL1.give rfl (g_pickT rfl (.mk rfl rfl) (.mk (v := .bool _) rfl rfl)) ?_)
      refine WL.nil ?_
      (refine hK _ _ ?_; clear hK)
      refine WC.cond_true (.mk rfl rfl) ?_
      (refine WC.seq ?_; intro K hK)
      refine WC.region rfl ?_
      refine WL.want rfl (WL1.give rfl (g_assign rfl (.mk (v := .bool _) rfl rfl)) ?_)
      refine WL.nil ?_
      (refine hK _ _ ?_; clear hK)
      refine WC.ret ?_
      rotate_left
      refine WL.want rfl (WL1.give rfl (g_pickF rfl (.mk rfl rfl) (.mk (v := .bool _) rfl rfl)) ?_)
      refine WL.want rfl (WL1.give rfl (g_move rfl (.mk (v := .bool _) rfl rfl)) ?_)
      refine WL.wantG rfl rfl rfl rfl (WL1.give rfl (g_move rfl (.mk (v := .slice _ _ _) rfl rfl)) ?_)
      refine WL.wantG rfl rfl rfl rfl (WL1.give rfl (g_indexAddr (sz := 1) rfl (.mk rfl rfl) (.mk rfl rfl) rfl rfl (show _ = ((0 : Nat) : Int) from rfl) (by omega) (fun _ _ => sl_some hs (by omega))) ?_)
      refine WL.wantG rfl rfl rfl rfl (WL1.give rfl (g_load rfl (.mk rfl rfl) rfl (rd_sl hs (get1 (by omega)))) ?_)
      refine WL.wantG rfl rfl rfl rfl (WL1.give rfl (g_len rfl (.mk rfl rfl) rfl) ?_)
      refine WL.wantG rfl rfl rfl rfl (WL1.give rfl (g_gt rfl (.mk rfl rfl) (.mk rfl rfl) (decide_eq_true (by omega))) ?_)
      refine WL.want rfl (WL1.give rfl (g_pickF rfl (.mk rfl rfl) (.mk (v := .bool _) rfl rfl)) ?_)
      refine WL.nil ?_
      (refine hK _ _ ?_; clear hK)
      refine WC.cond_true (.mk rfl rfl) ?_
      (refine WC.seq ?_; intro K hK)
      refine WC.region rfl ?_
      refine WL.want rfl (WL1.give rfl (g_assign rfl (.mk (v := .bool _) rfl rfl)) ?_)
      refine WL.nil ?_
      (refine hK _ _ ?_; clear hK)
      refine WC.ret ?_
      rotate_left
      all_goals exact fun w' hw' => ⟨by rw [hn]; rfl, hw'.1⟩
  · have hn : goodB (els rs) = false := goodB_no fun h => h0 ⟨h.parts.1, h.parts.2.1⟩
    refine calls_wc (args := [.slice A rs.length c]) [2] [] Try.func45 rfl Try.ntmps45 rfl rfl rfl rfl (H.refl w) ?_
    (refine WC.seq ?_; intro K hK)
    refine WC.region rfl ?_
    refine WL.want rfl (WL1.give rfl (g_assign rfl (.mk (v := .bool _) rfl rfl)) ?_)
    refine WL.nil ?_
    (refine hK _ _ ?_; clear hK)
    (refine WC.seq ?_; intro K hK)
    (refine WC.seq ?_; intro K hK)
    refine WC.region rfl ?_
    refine WL.want rfl (WL1.give rfl (g_move rfl (.mk (v := .slice _ _ _) rfl rfl)) ?_)
    refine WL.want rfl (WL1.give rfl (g_len rfl (.mk rfl rfl) rfl) ?_)
    refine WL.want rfl (WL1.giveD rfl (g_lt rfl (.mk rfl rfl) (.mk rfl rfl) rfl) (fun _ => ?_) (fun _ => ?_))
    refine WL.want rfl (WL1.give rfl (g_move rfl (.mk (v := .bool _) rfl rfl)) ?_)
    refine WL.skipG rfl rfl rfl rfl rfl rfl ?_
    refine WL.skipG rfl rfl rfl rfl rfl rfl ?_
    refine WL.skipG rfl rfl rfl rfl rfl rfl ?_
    refine WL.want rfl (WL1.give rfl (g_pickT rfl (.mk rfl rfl) (.mk (v := .bool _) rfl rfl)) ?_)
    refine WL.want rfl (WL1.give rfl (g_move rfl (.mk (v := .bool _) rfl rfl)) ?_)
    refine WL.skipG rfl rfl rfl rfl rfl rfl ?_
    refine WL.skipG rfl rfl rfl rfl rfl rfl ?_
    refine WL.skipG rfl rfl rfl rfl rfl rfl ?_
    refine WL.skipG rfl rfl rfl rfl rfl rfl ?_
    refine WL.skipG rfl rfl rfl rfl rfl rfl ?_
    refine WL.want rfl (WL1.give rfl (g_pickT rfl (.mk rfl rfl) (.mk (v := .bool _) rfl rfl)) ?_)
    refine WL.want rfl (WL1.give rfl (g_move rfl (.mk (v := .bool _) rfl rfl)) ?_)
    refine WL.skipG rfl rfl rfl rfl rfl rfl ?_
    refine WL.skipG rfl rfl rfl rfl rfl rfl ?_
    refine WL.skipG rfl rfl rfl rfl rfl rfl ?_
    refine WL.skipG rfl rfl rfl rfl rfl rfl ?_
    refine WL.skipG rfl rfl rfl rfl rfl rfl ?_
    refine WL.want rfl (WL1.give rfl (g_pickT rfl (.mk rfl rfl) (.mk (v := .bool _) rfl rfl)) ?_)
    refine WL.nil ?_
    (refine hK _ _ ?_; clear hK)
    refine WC.cond_true (.mk rfl rfl) ?_
    (refine WC.seq ?_; intro K hK)
    refine WC.region rfl ?_
    refine WL.want rfl (WL1.give rfl (g_assign rfl (.mk (v := .bool _) rfl rfl)) ?_)
    refine WL.nil ?_
    (refine hK _ _ ?_; clear hK)
    refine WC.ret ?_
    rotate_left
    refine WL.want rfl (WL1.give rfl (g_move rfl (.mk (v := .bool _) rfl rfl)) ?_)
    refine WL.wantG rfl rfl rfl rfl (WL1.give rfl (g_move rfl (.mk (v := .slice _ _ _) rfl rfl)) ?_)
    refine WL.wantG rfl rfl rfl rfl (WL1.give rfl (g_len rfl (.mk rfl rfl) rfl) ?_)
    refine WL.wantG rfl rfl rfl rfl (WL1.give rfl (g_gt rfl (.mk rfl rfl) (.mk rfl rfl) (decide_eq_true (by omega))) ?_)
    refine WL.want rfl (WL1.give rfl (g_pickF rfl (.mk rfl rfl) (.mk (v := .bool _) rfl rfl)) ?_)
    refine WL.want rfl (WL1.give rfl (g_move rfl (.mk (v := .bool _) rfl rfl)) ?_)
    refine WL.skipG rfl rfl rfl rfl rfl rfl ?_
    refine WL.skipG rfl rfl rfl rfl rfl rfl ?_
    refine WL.skipG rfl rfl rfl rfl rfl rfl ?_
    refine WL.skipG rfl rfl rfl rfl rfl rfl ?_
    refine WL.skipG rfl rfl rfl rfl rfl rfl ?_
    refine WL.want rfl (WL1.give rfl (g_pickT rfl (.mk rfl rfl) (.mk (v := .bool _) rfl rfl)) ?_)
    refine WL.want rfl (WL1.give rfl (g_move rfl (.mk (v := .bool _) rfl rfl)) ?_)
    refine WL.skipG rfl rfl rfl rfl rfl rfl ?_
    refine WL.skipG rfl rfl rfl rfl rfl rfl ?_
    refine WL.skipG rfl rfl rfl rfl rfl rfl ?_
    refine WL.skipG rfl rfl rfl rfl rfl rfl ?_
    refine WL.skipG rfl rfl rfl rfl rfl rfl ?_
    refine WL.want rfl (WL1.give rfl (g_pickT rfl (.mk rfl rfl) (.mk (v := .bool _) rfl rfl)) ?_)
    refine WL.nil ?_
    (refine hK _ _ ?_; clear hK)
    refine WC.cond_true (.mk rfl rfl) ?_
    (refine WC.seq ?_; intro K hK)
    refine WC.region rfl ?_
    refine WL.want rfl (WL1.give rfl (g_assign rfl (.mk (v := .bool _) rfl rfl)) ?_)
    refine WL.nil ?_
    (refine hK _ _ ?_; clear hK)
    refine WC.ret ?_
    rotate_left
    all_goals exact fun w' hw' => ⟨by rw [hn]; rfl, hw'.1⟩
/-- Sums with multiples hand back a new row. -/
theorem fused_n (v1 v2 : Value) (dst src : List G) (c : G) (w : World) (h1 : Sl w 1 v1 dst.length (bvs dst)) (h2 : Sl w 1 v2 src.length (bvs src)) (hlen : dst.length = src.length) (hsz : dst.length ≤ 1000000) :
    Calls Try.prog 50 #[v1, v2, bv c] w fun e w' => ∃ v M, e = .returned v ∧ H w M w' ∧ ∃ A cc, v = .tuple #[.slice A dst.length cc, iv 0] ∧ M = [vec A dst.length cc 5 1 (bvs (gfused dst src c))] :=
  (fused_any v1 v2 dst src c w hlen hsz h1 h2).mono fun e w' ⟨v, he, ho, hb⟩ => by
    obtain ⟨A, cc, rfl, hH⟩ := own_n ho hb
    exact ⟨_, _, he, hH, A, cc, rfl, rfl⟩
/-- A matrix of zeros. -/
def zrow (c : Nat) : List G := List.replicate c 0
theorem els_set {rs : List Row} {k : Nat} (r : Row) : els (rs.set k r) = (els rs).set k r.l := List.map_set
theorem rowsv_put {rs : List Row} {k j : Nat} {x : G} (hk : k < rs.length) : (rs.set k ((nth rs k).put j x)).map Row.v = rs.map Row.v := by
  rw [List.map_set, Row.put_v]
  refine list_ext_nth' ?_
  intro j
  by_cases e : j = k
  · subst e; rw [List.getElem?_set_self (by simpa using hk), List.getElem?_map, nth_get hk]; rfl
  · rw [List.getElem?_set_ne (fun h => e h.symm)]
where
  list_ext_nth' {l m : List Value} (h : ∀ i : Nat, l[i]? = m[i]?) : l = m := List.ext_getElem? h
end Go.Proofs.Ytlcddlipcdimeaa
namespace Go.Proofs.Ytlcddlipcdimeaa
open Go.RowKit
attribute [local irreducible] Calls
abbrev matM (A : Option Addr) (c : Nat) (rs : List Row) : List Asrt := [vec A rs.length c 24 1 (rs.map Row.v), rowsA rs]
theorem nilrow_set (rs : List Row) (r : Row) {n k : Nat} (h : rs.length = k) (hk : k < n) {i : Nat} (hi : i = k * 1) : (rs.map Row.v ++ List.replicate (n - k) (Value.slice none 0 0)).set i r.v = (rs ++ [r]).map Row.v ++ List.replicate (n - (k + 1)) (Value.slice none 0 0) := by
  rw [hi, Nat.mul_one, List.set_append_right _ _ (by rw [List.length_map]; omega), List.length_map, h, Nat.sub_self, show n - k = (n - (k + 1)) + 1 from by omega, List.replicate_succ, List.set_cons_zero, List.map_append, List.append_assoc]
  rfl
theorem els_add (rs : List Row) (r : Row) : els (rs ++ [r]) = els rs ++ [r.l] := by simp [els]
theorem zrow_own (b c : Nat) : (⟨some ⟨b, 0, none⟩, c, zrow c⟩ : Row).own = vec (some ⟨b, 0, none⟩) c c 5 1 (bvs (zrow c)) := by
  show vec _ (zrow c).length c _ _ _ = _
  rw [zrow, List.length_replicate]
theorem zrow_v (b c : Nat) : (⟨some ⟨b, 0, none⟩, c, zrow c⟩ : Row).v = .slice (some ⟨b, 0, none⟩) c c := by
  show Value.slice _ (zrow c).length c = _
  rw [zrow, List.length_replicate]
set_option maxRecDepth 20000 in
set_option maxHeartbeats 1000000 in
theorem blank_n (n c : Nat) (w : World) (hn : n ≤ 1000) (hc : c ≤ 1000) : Calls Try.prog 46 #[iv n, iv c] w fun e w' => ∃ v' M, e = .returned v' ∧ H w M w' ∧
    ∃ A cc rs, v' = .slice A rs.length cc ∧ M = matM A cc rs ∧ els rs = List.replicate n (zrow c) ∧ rs.length = n := by
  refine calls_wc (args := [iv n, iv c]) [4] [] Try.func46 rfl Try.ntmps46 rfl rfl rfl rfl (H.refl w) ?_
  (refine WC.seq ?_; intro K hK)
  refine WC.region rfl ?_
  refine WL.want rfl (WL1.give rfl (g_assign rfl (.mk (v := .slice _ _ _) rfl rfl)) ?_)
  refine WL.nil ?_
  (refine hK _ _ ?_; clear hK)
  (refine WC.seq ?_; intro K hK)
  refine WC.region rfl ?_
  refine WL.want rfl (WL1.give rfl (g_move rfl (.mk (v := .int _ _) rfl rfl)) ?_)
  refine WL.want rfl (WL1.make elR rfl rfl (.mk rfl rfl) (.mk rfl rfl) rfl rfl (by omega) (by unfold maxLen; omega) (fun b8 => ?_))
  refine WL.want rfl (WL1.give rfl (g_assign rfl (.mk (v := .slice _ _ _) rfl rfl)) ?_)
  refine WL.nil ?_
  (refine hK _ _ ?_; clear hK)
  (refine WC.seq ?_; intro K hK)
  (refine WC.seq ?_; intro K hK)
  refine WC.region rfl ?_
  refine WL.want rfl (WL1.give rfl (g_move rfl (.mk (v := .slice _ _ _) rfl rfl)) ?_)
  refine WL.want rfl (WL1.give rfl (g_len rfl (.mk rfl rfl) rfl) ?_)
  refine WL.want rfl (WL1.give rfl (g_move rfl (.mk (v := .int _ _) rfl rfl)) ?_)
  refine WL.nil ?_
  (refine hK _ _ ?_; clear hK)
  refine WC.block ?_
  refine WC.loopI2 (1046592) (fun (k : Nat) (rs : List Row) => [(11, iv k)]) (fun k rs => [vec (some ⟨b8, 0, none⟩) n n 24 1 (rs.map Row.v ++ List.replicate (n - k) (Value.slice none 0 0)), rowsA rs]) (fun k rs => k ≤ n ∧ rs.length = k ∧ els rs = List.replicate k (zrow c)) (fun k _ => n - k) 0 [] ⟨rfl, trivial⟩ ?_ ⟨by omega, rfl, rfl⟩ ?_
  · refine Imp.trans ?_ (Imp.cons (Imp.rows_nil []))
    rw [show (Value.slice none 0 0).cells = #[.slice none 0 0] from rfl, made_one]
    exact .refl _
  · rintro k rs U ⟨hk, hrl, hre⟩
    have hll : (rs.map Row.v ++ List.replicate (n - k) (Value.slice none 0 0)).length = n := by simp; omega
    by_cases hlt : k < n
    · (refine WC.seq ?_; intro K hK)
      refine WC.region rfl ?_
      refine WL.want rfl (WL1.give rfl (g_lt rfl (.mk rfl rfl) (.mk rfl rfl) (decide_eq_true (by omega))) ?_)
      refine WL.nil ?_
      (refine hK _ _ ?_; clear hK)
      (refine WC.seq ?_; intro K hK)
      refine WC.cond_true (.mk rfl rfl) ?_
      refine WC.skip ?_
      (refine hK _ _ ?_; clear hK)
      (refine WC.seq ?_; intro K hK)
      refine WC.block ?_
      (refine WC.seq ?_; intro K hK)
      refine WC.region rfl ?_
      refine WL.want rfl (WL1.give rfl (g_move rfl (.mk (v := .int _ _) rfl rfl)) ?_)
      refine WL.want rfl (WL1.give rfl (g_assign rfl (.mk (v := .int _ _) rfl rfl)) ?_)
      refine WL.nil ?_
      (refine hK _ _ ?_; clear hK)
      refine WC.region rfl ?_
      refine WL.want rfl (WL1.give rfl (g_move rfl (.mk (v := .slice _ _ _) rfl rfl)) ?_)
      refine WL.want rfl (WL1.give rfl (g_move rfl (.mk (v := .int _ _) rfl rfl)) ?_)
      refine WL.want rfl (WL1.give rfl (g_move rfl (.mk (v := .int _ _) rfl rfl)) ?_)
      refine WL.want rfl (WL1.make elB rfl rfl (.mk rfl rfl) (.mk rfl rfl) rfl rfl (by omega) (by unfold maxLen; omega) (fun b17 => ?_))
      refine WL.want rfl (WL1.give rfl (g_indexAddr (sz := 1) rfl (.mk rfl rfl) (.mk rfl rfl) rfl rfl rfl (by omega) (fun _ _ => rfl)) ?_)
      refine WL.want rfl (WL1.storeV1 rfl rfl (.mk rfl rfl) (.mk (v := .slice _ _ _) rfl rfl) rfl rfl (by first | omega | (simp; done) | (simp; omega)) (.tail (.head)) ?_)
      refine WL.nil ?_
      (refine hK _ _ ?_; clear hK)
      refine WC.region rfl ?_
      refine WL.want rfl (WL1.give rfl (g_add rfl (.mk rfl rfl) (.mk rfl rfl) (IntWalk.i64_in _ (by omega))) ?_)
      refine WL.want rfl (WL1.give rfl (g_move rfl (.mk (v := .int _ _) rfl rfl)) ?_)
      refine WL.nil ?_
      refine ⟨k + 1, rs ++ [⟨some ⟨b17, 0, none⟩, c, zrow c⟩], (by repeat (first | with_reducible exact Out.refl _ _ | refine Out.set rfl ?_ | refine Out.put rfl ?_ | refine Out.sets rfl ?_ | refine Out.hav rfl ?_ | exact Out.refl _ _)), ⟨rfl, trivial⟩, ?_, ⟨by omega, by simp [hrl], by rw [els_add, hre, List.replicate_succ']⟩, by omega⟩
      rw [← nilrow_set rs ⟨some ⟨b17, 0, none⟩, c, zrow c⟩ hrl hlt rfl, zrow_v]
      refine Imp.add2 ?_ (.tail .head)
      rw [zrow_own, zrow, ← madeU]
      exact .head
    · obtain rfl : k = n := by omega
      (refine WC.seq ?_; intro K hK)
      refine WC.region rfl ?_
      refine WL.want rfl (WL1.give rfl (g_lt rfl (.mk rfl rfl) (.mk rfl rfl) (decide_eq_false (by omega))) ?_)
      refine WL.nil ?_
      (refine hK _ _ ?_; clear hK)
      (refine WC.seq ?_; intro K hK)
      refine WC.cond_false (.mk rfl rfl) ?_
      refine WC.exit ?_
      (clear hK; refine hK _ _ ?_; clear hK)
      (refine WC.seq ?_; intro K hK)
      refine WC.region rfl ?_
      refine WL.want rfl (WL1.give rfl (g_move rfl (.mk (v := .slice _ _ _) rfl rfl)) ?_)
      refine WL.want rfl (WL1.give rfl (g_assign rfl (.mk (v := .slice _ _ _) rfl rfl)) ?_)
      refine WL.nil ?_
      (refine hK _ _ ?_; clear hK)
      refine WC.ret ?_
      exact fun w' hw' => ⟨_, _, rfl, hw', some ⟨b8, 0, none⟩, k, rs, by rw [hrl]; rfl, by rw [Nat.sub_self, List.replicate_zero, List.append_nil, matM, hrl], hre, hrl⟩
def idM (n : Nat) : List (List G) := (List.range n).map fun i => (List.range n).map fun k => dlt i k
/-- The first k rows. -/
def idP (n k : Nat) : List (List G) := (List.range n).map fun i => if i < k then (List.range n).map fun k => dlt i k else zrow n
theorem idP_zero (n : Nat) : idP n 0 = List.replicate n (zrow n) := by
  refine List.ext_getElem (by simp [idP]) fun i h1 h2 => ?_
  simp [idP]
theorem idP_all (n : Nat) : idP n n = idM n := List.map_congr_left fun i hi => if_pos (by simpa using hi)
theorem idP_len (n k : Nat) : (idP n k).length = n := by simp [idP]
theorem zrow_nth {c j : Nat} (h : j < c) : nth (zrow c) j = 0 := by rw [nth_eq (by simpa [zrow] using h)]; simp [zrow]
theorem zrow_len (c : Nat) : (zrow c).length = c := by simp [zrow]
theorem unit_row {n k : Nat} (h : k < n) : (zrow n).set k 1 = (List.range n).map fun j => dlt k j :=
  list_ext_nth (by rw [List.length_set, zrow_len]; simp) fun j hj => by
    rw [List.length_set, zrow_len] at hj
    rw [nth_range _ hj, nth_put (by rw [zrow_len]; exact h)]
    by_cases e : j = k
    · rw [if_pos e, e, dlt_self]
    · rw [if_neg e, zrow_nth hj, dlt_ne (fun h => e h.symm)]
theorem idP_row {n k : Nat} (h : k < n) : nth (idP n k) k = zrow n := by rw [idP, nth_range _ h, if_neg (by omega)]
theorem idP_set {n k : Nat} (h : k < n) : (idP n k).set k ((zrow n).set k 1) = idP n (k + 1) :=
  list_ext_nth (by rw [List.length_set, idP_len, idP_len]) fun j hj => by
    rw [List.length_set, idP_len] at hj
    rw [nth_put (by rw [idP_len]; exact h), unit_row h, idP, idP, nth_range _ hj, nth_range _ hj]
    by_cases e : j = k
    · subst e; rw [if_pos rfl, if_pos (by omega)]
    · rw [if_neg e]
      by_cases e2 : j < k
      · rw [if_pos e2, if_pos (by omega)]
      · rw [if_neg e2, if_neg (by omega)]
theorem els_row {rs : List Row} {m : List (List G)} (h : els rs = m) {k : Nat} (hk : k < rs.length) : (nth rs k).l = nth m k := by rw [← h, els_at hk]
theorem put_els {rs : List Row} {k j : Nat} {x : G} (hk : k < rs.length) : els (rs.set k ((nth rs k).put j x)) = (els rs).set k ((nth (els rs) k).set j x) := by rw [els_set, els_at hk]; rfl
set_option maxRecDepth 20000 in
set_option maxHeartbeats 1000000 in
theorem identity_n (n : Nat) (w : World) (h1 : 1 ≤ n) (h2 : n ≤ 64) : Calls Try.prog 43 #[iv n] w fun e w' => ∃ v' M, e = .returned v' ∧ H w M w' ∧
    ∃ A cc rs, v' = .tuple #[.slice A rs.length cc, iv 0] ∧ M = matM A cc rs ∧ els rs = idM n ∧ rs.length = n := by
  refine calls_wc (args := [iv n]) [2, 3] [] Try.func43 rfl Try.ntmps43 rfl rfl rfl rfl (H.refl w) ?_
  (refine WC.seq ?_; intro K hK)
  refine WC.region rfl ?_
  refine WL.want rfl (WL1.give rfl (g_assign rfl (.mk (v := .slice _ _ _) rfl rfl)) ?_)
  refine WL.want rfl (WL1.give rfl (g_assign rfl (.mk (v := .int _ _) rfl rfl)) ?_)
  refine WL.nil ?_
  (refine hK _ _ ?_; clear hK)
  (refine WC.seq ?_; intro K hK)
  (refine WC.seq ?_; intro K hK)
  refine WC.region rfl ?_
  refine WL.want rfl (WL1.give rfl (g_move rfl (.mk (v := .int _ _) rfl rfl)) ?_)
  refine WL.want rfl (WL1.give rfl (g_lt rfl (.mk rfl rfl) (.mk rfl rfl) (decide_eq_false (by omega))) ?_)
  refine WL.want rfl (WL1.give rfl (g_move rfl (.mk (v := .bool _) rfl rfl)) ?_)
  refine WL.wantG rfl rfl rfl rfl (WL1.give rfl (g_move rfl (.mk (v := .int _ _) rfl rfl)) ?_)
  refine WL.wantG rfl rfl rfl rfl (WL1.give rfl (g_gt rfl (.mk rfl rfl) (.mk rfl rfl) (decide_eq_false (by omega))) ?_)
  refine WL.want rfl (WL1.give rfl (g_pickF rfl (.mk rfl rfl) (.mk (v := .bool _) rfl rfl)) ?_)
  refine WL.nil ?_
  (refine hK _ _ ?_; clear hK)
  refine WC.cond_false (.mk rfl rfl) ?_
  refine WC.skip ?_
  (refine hK _ _ ?_; clear hK)
  (refine WC.seq ?_; intro K hK)
  refine WC.region rfl ?_
  refine WL.want rfl (WL1.give rfl (g_move rfl (.mk (v := .int _ _) rfl rfl)) ?_)
  refine WL.want rfl (WL1.give rfl (g_move rfl (.mk (v := .int _ _) rfl rfl)) ?_)
  (refine WL.want rfl (WL1.callN rfl rfl rfl (.cons (.mk (v := .int _ _) rfl rfl) (.cons (.mk (v := .int _ _) rfl rfl) .nil)) (fun w hw => blank_n n n w (by omega) (by omega)) ?_); rintro _ _ ⟨A, cc, rs0, rfl, rfl, hre0, hrl0⟩)
  refine WL.want rfl (WL1.give rfl (g_assign rfl (.mk (v := .slice _ _ _) rfl rfl)) ?_)
  refine WL.nil ?_
  (refine hK _ _ ?_; clear hK)
  (refine WC.seq ?_; intro K hK)
  (refine WC.seq ?_; intro K hK)
  refine WC.region rfl ?_
  refine WL.want rfl (WL1.give rfl (g_move rfl (.mk (v := .slice _ _ _) rfl rfl)) ?_)
  refine WL.want rfl (WL1.give rfl (g_len rfl (.mk rfl rfl) rfl) ?_)
  refine WL.want rfl (WL1.give rfl (g_move rfl (.mk (v := .int _ _) rfl rfl)) ?_)
  refine WL.nil ?_
  (refine hK _ _ ?_; clear hK)
  refine WC.block ?_
  refine WC.loopI2 (134086688) (fun (k : Nat) (rs : List Row) => [(17, iv k)]) (fun k rs => [vec A rs0.length cc 24 1 (rs.map Row.v), rowsA rs]) (fun k rs => k ≤ n ∧ rs.length = n ∧ els rs = idP n k) (fun k _ => n - k) 0 rs0 ⟨rfl, trivial⟩ (by rw [List.append_nil]; exact .refl _) ⟨by omega, hrl0, by rw [hre0, idP_zero]⟩ ?_
  rintro k rs U ⟨hk, hrl, hre⟩
  by_cases hlt : k < n
  · have hrow := els_row hre (k := k) (by omega)
    rw [idP_row hlt] at hrow
    have hrl2 : (nth rs k).l.length = n := by rw [hrow, zrow_len]
    (refine WC.seq ?_; intro K hK)
    refine WC.region rfl ?_
    refine WL.want rfl (WL1.give rfl (g_lt rfl (.mk rfl rfl) (.mk rfl rfl) (decide_eq_true (by omega))) ?_)
    refine WL.nil ?_
    (refine hK _ _ ?_; clear hK)
    (refine WC.seq ?_; intro K hK)
    refine WC.cond_true (.mk rfl rfl) ?_
    refine WC.skip ?_
    (refine hK _ _ ?_; clear hK)
    (refine WC.seq ?_; intro K hK)
    refine WC.block ?_
    (refine WC.seq ?_; intro K hK)
    refine WC.region rfl ?_
    refine WL.want rfl (WL1.give rfl (g_move rfl (.mk (v := .int _ _) rfl rfl)) ?_)
    refine WL.want rfl (WL1.give rfl (g_assign rfl (.mk (v := .int _ _) rfl rfl)) ?_)
    refine WL.nil ?_
    (refine hK _ _ ?_; clear hK)
    refine WC.region rfl ?_
    refine WL.want rfl (WL1.give rfl (g_move rfl (.mk (v := .slice _ _ _) rfl rfl)) ?_)
    refine WL.want rfl (WL1.give rfl (g_move rfl (.mk (v := .int _ _) rfl rfl)) ?_)
    refine WL.want rfl (WL1.give rfl (g_indexAddr (sz := 1) rfl (.mk rfl rfl) (.mk rfl rfl) rfl rfl rfl (by omega) (fun w hw => vec_some hw (.head _) (by omega))) ?_)
    refine WL.want rfl (WL1.give rfl (g_load rfl (.mk rfl rfl) rfl (rd_vec (.head _) (get1 (by omega)))) ?_)
    refine WL.want rfl (WL1.give rfl (g_move rfl (.mk (v := .int _ _) rfl rfl)) ?_)
    refine WL.want rfl (WL1.give rfl (g_indexAddr (sz := 1) rfl (.mk rfl rfl) (.mk rfl rfl) rfl rfl rfl (by omega) (rowA_some (.tail _ (.head _)) (by omega) (by omega))) ?_)
    refine WL.want rfl (WL1.storeRow (g := 1) rfl rfl (.mk rfl rfl) rfl rfl (.mk rfl rfl) rfl rfl (by omega) (by omega) (.tail (.head)) ?_)
    refine WL.nil ?_
    (refine hK _ _ ?_; clear hK)
    refine WC.region rfl ?_
    refine WL.want rfl (WL1.give rfl (g_add rfl (.mk rfl rfl) (.mk rfl rfl) (IntWalk.i64_in _ (by omega))) ?_)
    refine WL.want rfl (WL1.give rfl (g_move rfl (.mk (v := .int _ _) rfl rfl)) ?_)
    refine WL.nil ?_
    refine ⟨k + 1, rs.set k ((nth rs k).put k 1), (by repeat (first | with_reducible exact Out.refl _ _ | refine Out.set rfl ?_ | refine Out.put rfl ?_ | refine Out.sets rfl ?_ | refine Out.hav rfl ?_ | exact Out.refl _ _)), ⟨rfl, trivial⟩, by rw [rowsv_put (by omega)]; exact .refl _, ⟨by omega, by rw [List.length_set, hrl], by rw [put_els (by omega), hre, idP_row hlt, idP_set hlt]⟩, by omega⟩
  · obtain rfl : k = n := by omega
    (refine WC.seq ?_; intro K hK)
    refine WC.region rfl ?_
    refine WL.want rfl (WL1.give rfl (g_lt rfl (.mk rfl rfl) (.mk rfl rfl) (decide_eq_false (by omega))) ?_)
    refine WL.nil ?_
    (refine hK _ _ ?_; clear hK)
    (refine WC.seq ?_; intro K hK)
    refine WC.cond_false (.mk rfl rfl) ?_
    refine WC.exit ?_
    (clear hK; refine hK _ _ ?_; clear hK)
    (refine WC.seq ?_; intro K hK)
    refine WC.region rfl ?_
    refine WL.want rfl (WL1.give rfl (g_move rfl (.mk (v := .slice _ _ _) rfl rfl)) ?_)
    refine WL.want rfl (WL1.give rfl (g_assign rfl (.mk (v := .slice _ _ _) rfl rfl)) ?_)
    refine WL.want rfl (WL1.give rfl (g_assign rfl (.mk (v := .int _ _) rfl rfl)) ?_)
    refine WL.nil ?_
    (refine hK _ _ ?_; clear hK)
    refine WC.ret ?_
    exact fun w' hw' => ⟨_, _, rfl, hw', A, cc, rs, by show Value.tuple #[.slice A rs0.length cc, iv 0] = _; rw [hrl, hrl0], by rw [matM, hrl, hrl0], by rw [hre, idP_all], hrl⟩
set_option maxRecDepth 20000 in
set_option maxHeartbeats 1000000 in
theorem identity_bad (n : Int) (w : World) (h : n < 1 ∨ 64 < n) : Calls Try.prog 43 #[iv n] w fun e w' => e = .returned (.tuple #[.slice none 0 0, iv 1]) ∧ Below w.heap.size w w' := by
  refine calls_wc (args := [iv n]) [2, 3] [] Try.func43 rfl Try.ntmps43 rfl rfl rfl rfl (H.refl w) ?_
  (refine WC.seq ?_; intro K hK)
  refine WC.region rfl ?_
  refine WL.want rfl (WL1.give rfl (g_assign rfl (.mk (v := .slice _ _ _) rfl rfl)) ?_)
  refine WL.want rfl (WL1.give rfl (g_assign rfl (.mk (v := .int _ _) rfl rfl)) ?_)
  refine WL.nil ?_
  (refine hK _ _ ?_; clear hK)
  (refine WC.seq ?_; intro K hK)
  (refine WC.seq ?_; intro K hK)
  refine WC.region rfl ?_
  refine WL.want rfl (WL1.give rfl (g_move rfl (.mk (v := .int _ _) rfl rfl)) ?_)
  refine WL.want rfl (WL1.giveD rfl (g_lt rfl (.mk rfl rfl) (.mk rfl rfl) rfl) (fun _ => ?_) (fun _ => ?_))
  refine WL.want rfl (WL1.give rfl (g_move rfl (.mk (v := .bool _) rfl rfl)) ?_)
  refine WL.skipG rfl rfl rfl rfl rfl rfl ?_
  refine WL.skipG rfl rfl rfl rfl rfl rfl ?_
  refine WL.want rfl (WL1.give rfl (g_pickT rfl (.mk rfl rfl) (.mk (v := .bool _) rfl rfl)) ?_)
  refine WL.nil ?_
  (refine hK _ _ ?_; clear hK)
  refine WC.cond_true (.mk rfl rfl) ?_
  (refine WC.seq ?_; intro K hK)
  refine WC.region rfl ?_
  refine WL.want rfl (WL1.give rfl (g_assign rfl (.mk (v := .slice _ _ _) rfl rfl)) ?_)
  refine WL.want rfl (WL1.give rfl (g_assign rfl (.mk (v := .int _ _) rfl rfl)) ?_)
  refine WL.nil ?_
  (refine hK _ _ ?_; clear hK)
  refine WC.ret ?_
  rotate_left
  refine WL.want rfl (WL1.give rfl (g_move rfl (.mk (v := .bool _) rfl rfl)) ?_)
  refine WL.wantG rfl rfl rfl rfl (WL1.give rfl (g_move rfl (.mk (v := .int _ _) rfl rfl)) ?_)
  refine WL.wantG rfl rfl rfl rfl (WL1.give rfl (g_gt rfl (.mk rfl rfl) (.mk rfl rfl) (decide_eq_true (by omega))) ?_)
  refine WL.want rfl (WL1.give rfl (g_pickF rfl (.mk rfl rfl) (.mk (v := .bool _) rfl rfl)) ?_)
  refine WL.nil ?_
  (refine hK _ _ ?_; clear hK)
  refine WC.cond_true (.mk rfl rfl) ?_
  (refine WC.seq ?_; intro K hK)
  refine WC.region rfl ?_
  refine WL.want rfl (WL1.give rfl (g_assign rfl (.mk (v := .slice _ _ _) rfl rfl)) ?_)
  refine WL.want rfl (WL1.give rfl (g_assign rfl (.mk (v := .int _ _) rfl rfl)) ?_)
  refine WL.nil ?_
  (refine hK _ _ ?_; clear hK)
  refine WC.ret ?_
  rotate_left
  all_goals exact fun w' hw' => ⟨rfl, hw'.1⟩
end Go.Proofs.Ytlcddlipcdimeaa
namespace Go.Proofs.Ytlcddlipcdimeaa
open Go.RowKit
attribute [local irreducible] Calls
/-- A row of results under way: those below i are done, the one at i is g, the others are z. -/
def prg {α : Type} (n : Nat) (f : Nat → α) (z g : α) (i : Nat) : List α := (List.range n).map fun q => if q < i then f q else if q = i then g else z
section
variable {α : Type} {n i : Nat} {f : Nat → α} {z g g' : α}
theorem prg_len : (prg n f z g i).length = n := by simp [prg]
theorem prg_nth [Inhabited α] {q : Nat} (h : q < n) : nth (prg n f z g i) q = if q < i then f q else if q = i then g else z := nth_range _ h
theorem prg_at [Inhabited α] (h : i < n) : nth (prg n f z g i) i = g := by rw [prg_nth h, if_neg (by omega), if_pos rfl]
theorem prg_set [Inhabited α] (h : i < n) : (prg n f z g i).set i g' = prg n f z g' i :=
  list_ext_nth (by rw [List.length_set, prg_len, prg_len]) fun q hq => by
    rw [List.length_set, prg_len] at hq
    rw [nth_put (by rw [prg_len]; exact h), prg_nth hq, prg_nth hq]
    by_cases e : q = i
    · subst e; rw [if_pos rfl, if_neg (by omega), if_pos rfl]
    · rw [if_neg e, if_neg e, if_neg e]
theorem prg_next : prg n f z (f i) i = prg n f z z (i + 1) := List.map_congr_left fun q _ => by
  by_cases e : q < i
  · rw [if_pos e, if_pos (by omega)]
  · by_cases e2 : q = i
    · subst e2; rw [if_neg e, if_pos rfl, if_pos (by omega)]
    · rw [if_neg e, if_neg e2, if_neg (by omega)]
      by_cases e3 : q = i + 1
      · rw [if_pos e3]
      · rw [if_neg e3]
theorem prg_zero : List.replicate n z = prg n f z z 0 := by
  refine List.ext_getElem (by simp [prg]) fun q h1 h2 => ?_
  simp [prg]
theorem prg_all : prg n f z z n = (List.range n).map f := List.map_congr_left fun q hq => if_pos (by simpa using hq)
end
theorem gfused_map {dst src : List G} {n : Nat} (c : G) (h1 : dst.length = n) (h2 : src.length = n) : gfused dst src c = (List.range n).map fun j => nth dst j + c * nth src j :=
  list_ext_nth (by rw [gfused_length _ _ _ (by omega)]; simp [h1]) fun k hk => by
    rw [gfused_length _ _ _ (by omega)] at hk
    rw [nth_range _ (by omega), nth_eq hk, nth_eq (l := src) (by omega)]
    have := gfused_get dst src c k hk (by omega)
    unfold nth
    rw [List.getD_eq_getElem?_getD, this]; rfl
theorem own_of {A : Option Addr} {c m : Nat} {l : List G} (h : l.length = m) : vec A m c 5 1 (bvs l) = (⟨A, c, l⟩ : Row).own := by subst h; rfl
theorem v_of {A : Option Addr} {c m : Nat} {l : List G} (h : l.length = m) : Value.slice A m c = (⟨A, c, l⟩ : Row).v := by subst h; rfl
/-- Element j of row i. -/
def el (m : List (List G)) (i j : Nat) : G := nth (nth m i) j
theorem el_row {rs : List Row} {i : Nat} (h : i < rs.length) (j : Nat) : nth (nth rs i).l j = el (els rs) i j := by rw [el, els_at h]
def dot (m : List (List G)) (v : List G) (i k : Nat) : G := gsum k fun j => el m i j * nth v j
def apM (m : List (List G)) (v : List G) : List G := (List.range m.length).map fun i => dot m v i v.length
theorem mul_c (a b : G) (w : World) : Calls Try.prog 35 #[bv a, bv b] w fun e w' => e = .returned (bv (a * b)) ∧ w' = w := (mul_any a b w).mono fun _ _ ⟨h1, h2⟩ => ⟨h1, h2.symm⟩
theorem xor_bv (a b : G) : IntKind.u8.wrap ((BitVec.ofInt IntKind.u8.bits (a.val : Int) ^^^ BitVec.ofInt IntKind.u8.bits (b.val : Int)).toNat : Int) = (((a + b).val : Nat) : Int) := G.add_val a b
end Go.Proofs.Ytlcddlipcdimeaa
namespace Go.Proofs.Ytlcddlipcdimeaa
open Go.RowKit
attribute [local irreducible] Calls
/-- Row i of the product, of the first k terms. -/
def mrow (a b : List (List G)) (c i k : Nat) : List G := (List.range c).map fun j => gsum k fun n => el a i n * el b n j
theorem mrow_len (a b : List (List G)) (c i k : Nat) : (mrow a b c i k).length = c := by simp [mrow]
def mulM (a b : List (List G)) : List (List G) := (List.range a.length).map fun i => mrow a b (nth b 0).length i b.length
theorem mrow_zero (a b : List (List G)) (c i : Nat) : mrow a b c i 0 = zrow c := by
  refine list_ext_nth (by rw [mrow_len, zrow_len]) fun j hj => ?_
  rw [mrow_len] at hj
  rw [mrow, nth_range _ hj, zrow_nth hj]; rfl
theorem mrow_step {a b : List (List G)} {c i k : Nat} (hb : (nth b k).length = c) : gfused (mrow a b c i k) (nth b k) (el a i k) = mrow a b c i (k + 1) := by
  rw [gfused_map (n := c) _ (mrow_len _ _ _ _ _) hb]
  refine List.map_congr_left fun j hj => ?_
  have hj' : j < c := by simpa using hj
  rw [mrow, nth_range _ hj']; rfl
set_option maxRecDepth 20000 in
set_option maxHeartbeats 2000000 in
theorem mul_n (va vb : Value) (ra rb : List Row) (w : World) (ha : MatAt w va ra) (hb : MatAt w vb rb) (hg : Good (els ra)) (hgb : Good (els rb)) (hl : (nth ra 0).l.length = rb.length) :
    Calls Try.prog 31 #[va, vb] w fun e w' => ∃ v' M, e = .returned v' ∧ H w M w' ∧ ∃ A cc rs, v' = .tuple #[.slice A rs.length cc, iv 0] ∧ M = matM A cc rs ∧ els rs = mulM (els ra) (els rb) ∧ rs.length = ra.length := by
  obtain ⟨A, c, rfl, hc, hm, hs⟩ := ha.1.open_
  obtain ⟨A2, c2, rfl, hc2, hm2, hs2⟩ := hb.1.open_
  have hval := fun w' hb => valid_e _ ra w' (ha.below (w' := w') hb)
  have hval2 := fun w' hx => valid_e _ rb w' (hb.below (w' := w') hx)
  rw [goodB_iff.2 hg] at hval
  rw [goodB_iff.2 hgb] at hval2
  obtain ⟨g1, g2, g3, g4⟩ := hg.parts
  obtain ⟨q1, q2, q3, q4⟩ := hgb.parts
  refine calls_wc (args := [.slice A ra.length c, .slice A2 rb.length c2]) [4, 5] [] Try.func31 rfl Try.ntmps31 rfl rfl rfl rfl (H.refl w) ?_
  (refine WC.seq ?_; intro K hK)
  refine WC.region rfl ?_
  refine WL.want rfl (WL1.give rfl (g_assign rfl (.mk (v := .slice _ _ _) rfl rfl)) ?_)
  refine WL.want rfl (WL1.give rfl (g_assign rfl (.mk (v := .int _ _) rfl rfl)) ?_)
  refine WL.nil ?_
  (refine hK _ _ ?_; clear hK)
  (refine WC.seq ?_; intro K hK)
  (refine WC.seq ?_; intro K hK)
  refine WC.region rfl ?_
  refine WL.want rfl (WL1.give rfl (g_move rfl (.mk (v := .slice _ _ _) rfl rfl)) ?_)
  refine WL.want rfl (WL1.callP rfl rfl rfl (.cons (.mk (v := .slice _ _ _) rfl rfl) .nil) (fun w hw => hval w hw.1) ?_)
  refine WL.want rfl (WL1.give rfl (g_notT rfl (.mk rfl rfl)) ?_)
  refine WL.want rfl (WL1.give rfl (g_move rfl (.mk (v := .bool _) rfl rfl)) ?_)
  refine WL.wantG rfl rfl rfl rfl (WL1.give rfl (g_move rfl (.mk (v := .slice _ _ _) rfl rfl)) ?_)
  refine WL.wantG rfl rfl rfl rfl (WL1.callP rfl rfl rfl (.cons (.mk (v := .slice _ _ _) rfl rfl) .nil) (fun w hw => hval2 w hw.1) ?_)
  refine WL.wantG rfl rfl rfl rfl (WL1.give rfl (g_notT rfl (.mk rfl rfl)) ?_)
  refine WL.want rfl (WL1.give rfl (g_pickF rfl (.mk rfl rfl) (.mk (v := .bool _) rfl rfl)) ?_)
  refine WL.want rfl (WL1.give rfl (g_move rfl (.mk (v := .bool _) rfl rfl)) ?_)
  refine WL.wantG rfl rfl rfl rfl (WL1.give rfl (g_move rfl (.mk (v := .slice _ _ _) rfl rfl)) ?_)
  refine WL.wantG rfl rfl rfl rfl (WL1.give rfl (g_indexAddr (sz := 1) rfl (.mk rfl rfl) (.mk rfl rfl) rfl rfl (show _ = ((0 : Nat) : Int) from rfl) (by omega) (fun _ _ => sl_some hs (by omega))) ?_)
  refine WL.wantG rfl rfl rfl rfl (WL1.give rfl (g_load rfl (.mk rfl rfl) rfl (rd_sl hs (get1 (by omega)))) ?_)
  refine WL.wantG rfl rfl rfl rfl (WL1.give rfl (g_len rfl (.mk rfl rfl) rfl) ?_)
  refine WL.wantG rfl rfl rfl rfl (WL1.give rfl (g_move rfl (.mk (v := .slice _ _ _) rfl rfl)) ?_)
  refine WL.wantG rfl rfl rfl rfl (WL1.give rfl (g_len rfl (.mk rfl rfl) rfl) ?_)
  refine WL.wantG rfl rfl rfl rfl (WL1.give rfl (g_ne rfl (.mk rfl rfl) (.mk rfl rfl) (decide_eq_false (by omega))) ?_)
  refine WL.want rfl (WL1.give rfl (g_pickF rfl (.mk rfl rfl) (.mk (v := .bool _) rfl rfl)) ?_)
  refine WL.nil ?_
  (refine hK _ _ ?_; clear hK)
  refine WC.cond_false (.mk rfl rfl) ?_
  refine WC.skip ?_
  (refine hK _ _ ?_; clear hK)
  (refine WC.seq ?_; intro K hK)
  refine WC.region rfl ?_
  refine WL.want rfl (WL1.give rfl (g_move rfl (.mk (v := .slice _ _ _) rfl rfl)) ?_)
  refine WL.want rfl (WL1.give rfl (g_len rfl (.mk rfl rfl) rfl) ?_)
  refine WL.want rfl (WL1.give rfl (g_move rfl (.mk (v := .slice _ _ _) rfl rfl)) ?_)
  refine WL.want rfl (WL1.give rfl (g_indexAddr (sz := 1) rfl (.mk rfl rfl) (.mk rfl rfl) rfl rfl (show _ = ((0 : Nat) : Int) from rfl) (by omega) (fun _ _ => sl_some hs2 (by omega))) ?_)
  refine WL.want rfl (WL1.give rfl (g_load rfl (.mk rfl rfl) rfl (rd_sl hs2 (get1 (by omega)))) ?_)
  refine WL.want rfl (WL1.give rfl (g_len rfl (.mk rfl rfl) rfl) ?_)
  (refine WL.want rfl (WL1.callN rfl rfl rfl (.cons (.mk (v := .int _ _) rfl rfl) (.cons (.mk (v := .int _ _) rfl rfl) .nil)) (fun w hw => blank_n ra.length (nth rb 0).l.length w (by omega) (by omega)) ?_); rintro _ _ ⟨Ao, co, r0, rfl, rfl, hre0, hrl0⟩)
  refine WL.want rfl (WL1.give rfl (g_assign rfl (.mk (v := .slice _ _ _) rfl rfl)) ?_)
  refine WL.nil ?_
  (refine hK _ _ ?_; clear hK)
  (refine WC.seq ?_; intro K hK)
  (refine WC.seq ?_; intro K hK)
  refine WC.region rfl ?_
  refine WL.want rfl (WL1.give rfl (g_move rfl (.mk (v := .slice _ _ _) rfl rfl)) ?_)
  refine WL.want rfl (WL1.give rfl (g_len rfl (.mk rfl rfl) rfl) ?_)
  refine WL.want rfl (WL1.give rfl (g_move rfl (.mk (v := .int _ _) rfl rfl)) ?_)
  refine WL.nil ?_
  (refine hK _ _ ?_; clear hK)
  refine WC.block ?_
  obtain ⟨F, hF⟩ : ∃ F, F = fun i => mrow (els ra) (els rb) (nth rb 0).l.length i rb.length := ⟨_, rfl⟩
  obtain ⟨z, hz⟩ : ∃ z, z = zrow (nth rb 0).l.length := ⟨_, rfl⟩
  refine WC.loopI2 (147573952452237461376) (fun (i : Nat) (rs : List Row) => [(37, iv i)]) (fun i rs => [vec Ao r0.length co 24 1 (rs.map Row.v), rowsA rs]) (fun i rs => i ≤ ra.length ∧ rs.length = ra.length ∧ els rs = prg ra.length F z z i) (fun i _ => ra.length - i) 0 r0 ⟨rfl, trivial⟩ (by rw [List.append_nil]; exact .refl _) ⟨by omega, hrl0, by rw [hre0, hz, prg_zero]⟩ ?_
  rintro i rs U ⟨hi, hrl, hre⟩
  by_cases hlt : i < ra.length
  · have hral := hg.row hlt
    (refine WC.seq ?_; intro K hK)
    refine WC.region rfl ?_
    refine WL.want rfl (WL1.give rfl (g_lt rfl (.mk rfl rfl) (.mk rfl rfl) (decide_eq_true (by omega))) ?_)
    refine WL.nil ?_
    (refine hK _ _ ?_; clear hK)
    (refine WC.seq ?_; intro K hK)
    refine WC.cond_true (.mk rfl rfl) ?_
    refine WC.skip ?_
    (refine hK _ _ ?_; clear hK)
    (refine WC.seq ?_; intro K hK)
    refine WC.block ?_
    (refine WC.seq ?_; intro K hK)
    refine WC.region rfl ?_
    refine WL.want rfl (WL1.give rfl (g_move rfl (.mk (v := .int _ _) rfl rfl)) ?_)
    refine WL.want rfl (WL1.give rfl (g_indexAddr (sz := 1) rfl (.mk rfl rfl) (.mk rfl rfl) rfl rfl rfl (by omega) (fun _ _ => sl_some hs (by omega))) ?_)
    refine WL.want rfl (WL1.give rfl (g_load rfl (.mk rfl rfl) rfl (rd_sl hs (get1 (by omega)))) ?_)
    refine WL.want rfl (WL1.give rfl (g_assign rfl (.mk (v := .int _ _) rfl rfl)) ?_)
    refine WL.want rfl (WL1.give rfl (g_assign rfl (.mk (v := .slice _ _ _) rfl rfl)) ?_)
    refine WL.nil ?_
    (refine hK _ _ ?_; clear hK)
    (refine WC.seq ?_; intro K hK)
    refine WC.region rfl ?_
    refine WL.want rfl (WL1.give rfl (g_move rfl (.mk (v := .slice _ _ _) rfl rfl)) ?_)
    refine WL.want rfl (WL1.give rfl (g_len rfl (.mk rfl rfl) rfl) ?_)
    refine WL.want rfl (WL1.give rfl (g_move rfl (.mk (v := .int _ _) rfl rfl)) ?_)
    refine WL.nil ?_
    (refine hK _ _ ?_; clear hK)
    refine WC.block ?_
    refine WC.loopI2 (73786958702652163584) (fun (k : Nat) (rs : List Row) => [(44, iv k)]) (fun k rs => [vec Ao r0.length co 24 1 (rs.map Row.v), rowsA rs]) (fun k rs => k ≤ rb.length ∧ rs.length = ra.length ∧ els rs = prg ra.length F z (mrow (els ra) (els rb) (nth rb 0).l.length i k) i) (fun k _ => rb.length - k) 0 rs ⟨rfl, trivial⟩ (.refl _) ⟨by omega, hrl, by rw [hre, mrow_zero, hz]⟩ ?_
    rintro k rs U ⟨hk, hrl, hre⟩
    by_cases hlt2 : k < rb.length
    · have hrbl := hgb.row hlt2
      have hri : (nth rs i).l = mrow (els ra) (els rb) (nth rb 0).l.length i k := by rw [els_row hre (by omega), prg_at hlt]
      have hrll : (nth rs i).l.length = (nth rb 0).l.length := by rw [hri, mrow_len]
      have hgf : gfused (nth rs i).l (nth rb k).l (nth (nth ra i).l k) = mrow (els ra) (els rb) (nth rb 0).l.length i (k + 1) := by
        rw [hri, el_row hlt, ← els_at hlt2]; exact mrow_step (by rw [els_at hlt2]; exact hrbl)
      have hgl : (gfused (nth rs i).l (nth rb k).l (nth (nth ra i).l k)).length = (nth rs i).l.length := gfused_length _ _ _ (by omega)
      (refine WC.seq ?_; intro K hK)
      refine WC.region rfl ?_
      refine WL.want rfl (WL1.give rfl (g_lt rfl (.mk rfl rfl) (.mk rfl rfl) (decide_eq_true (by omega))) ?_)
      refine WL.nil ?_
      (refine hK _ _ ?_; clear hK)
      (refine WC.seq ?_; intro K hK)
      refine WC.cond_true (.mk rfl rfl) ?_
      refine WC.skip ?_
      (refine hK _ _ ?_; clear hK)
      (refine WC.seq ?_; intro K hK)
      refine WC.block ?_
      (refine WC.seq ?_; intro K hK)
      refine WC.region rfl ?_
      refine WL.want rfl (WL1.give rfl (g_move rfl (.mk (v := .int _ _) rfl rfl)) ?_)
      refine WL.want rfl (WL1.give rfl (g_indexAddr (sz := 1) rfl (.mk rfl rfl) (.mk rfl rfl) rfl rfl rfl (by omega) (fun _ _ => sl_some (ha.row (by omega)) (by omega))) ?_)
      refine WL.want rfl (WL1.give rfl (g_load rfl (.mk rfl rfl) rfl (rd_sl (ha.row (by omega)) (get1 (by omega)))) ?_)
      refine WL.want rfl (WL1.give rfl (g_assign rfl (.mk (v := .int _ _) rfl rfl)) ?_)
      refine WL.want rfl (WL1.give rfl (g_assign rfl (.mk (v := .int _ _) rfl rfl)) ?_)
      refine WL.nil ?_
      (refine hK _ _ ?_; clear hK)
      refine WC.split 0 rfl (by kernel_rfl) (by decide +kernel) ?_
      refine WQ.nil ?_
      refine WY.take 0 rfl (by decide +kernel) (by decide +kernel) (by decide +kernel) rfl rfl (g_move rfl (.mk (v := .slice _ _ _) rfl rfl)) ?_
      refine WY.take 1 rfl (by decide +kernel) (by decide +kernel) (by decide +kernel) rfl rfl (g_move rfl (.mk (v := .int _ _) rfl rfl)) ?_
      refine WY.take 2 rfl (by decide +kernel) (by decide +kernel) (by decide +kernel) rfl rfl (g_move rfl (.mk (v := .slice _ _ _) rfl rfl)) ?_
      refine WY.take 3 rfl (by decide +kernel) (by decide +kernel) (by decide +kernel) rfl rfl (g_move rfl (.mk (v := .int _ _) rfl rfl)) ?_
      refine WY.take 6 rfl (by decide +kernel) (by decide +kernel) (by decide +kernel) rfl rfl (g_move rfl (.mk (v := .slice _ _ _) rfl rfl)) ?_
      refine WY.take 7 rfl (by decide +kernel) (by decide +kernel) (by decide +kernel) rfl rfl (g_move rfl (.mk (v := .int _ _) rfl rfl)) ?_
      refine WY.take 8 rfl (by decide +kernel) (by decide +kernel) (by decide +kernel) rfl rfl (g_indexAddr (sz := 1) rfl (.mk rfl rfl) (.mk rfl rfl) rfl rfl rfl (by omega) (fun _ _ => sl_some hs2 (by omega))) ?_
      refine WY.take 10 rfl (by decide +kernel) (by decide +kernel) (by decide +kernel) rfl rfl (g_move rfl (.mk (v := .int _ _) rfl rfl)) ?_
      refine WY.two 4 9 (by decide +kernel) rfl rfl rfl rfl ?_ ?_
      refine WL1.give rfl (g_indexAddr (sz := 1) rfl (.mk rfl rfl) (.mk rfl rfl) rfl rfl rfl (by omega) (fun w hw => vec_some hw (.head _) (by omega))) ?_
      refine WL.nil ?_
      refine WY.two 5 9 (by decide +kernel) rfl rfl rfl rfl ?_ ?_
      refine WL1.give rfl (g_load rfl (.mk rfl rfl) rfl (rd_vec (.head _) (get1 (by omega)))) ?_
      refine WL.nil ?_
      refine WY.one 9 (by decide +kernel) rfl rfl ?_
      refine WL1.give rfl (g_load rfl (.mk rfl rfl) rfl (rd_sl hs2 (get1 (by omega)))) ?_
      refine WL.nil ?_
      refine WY.one 11 (by decide +kernel) rfl rfl ?_
      (refine WL1.callN rfl rfl rfl (.cons (.mk (v := .slice _ _ _) rfl rfl) (.cons (.mk (v := .slice _ _ _) rfl rfl) (.cons (.mk (v := .int _ _) rfl rfl) .nil))) (fun w hw => fused_n _ _ (nth rs i).l (nth rb k).l (nth (nth ra i).l k) w (Sl.of_rowA hw (by repeat (first | exact .head _ | apply List.Mem.tail)) (by omega)) ((hb.row hlt2).below hw.1) (by omega) (by omega)) ?_; rintro _ _ ⟨Af, cf, rfl, rfl⟩)
      refine WL.nil ?_
      refine WY.take 12 rfl (by decide +kernel) (by decide +kernel) (by decide +kernel) rfl rfl (g_move rfl (.mk (v := .tuple _) rfl rfl)) ?_
      refine WY.take 13 rfl (by decide +kernel) (by decide +kernel) (by decide +kernel) rfl rfl (g_extract rfl (.mk rfl rfl) rfl) ?_
      refine WY.take 14 rfl (by decide +kernel) (by decide +kernel) (by decide +kernel) rfl rfl (g_extract rfl (.mk rfl rfl) rfl) ?_
      refine WY.one 15 (by decide +kernel) rfl rfl ?_
      refine WL1.give rfl (g_indexAddr (sz := 1) rfl (.mk rfl rfl) (.mk rfl rfl) rfl rfl rfl (by omega) (fun w hw => vec_some hw (.tail _ (.head _)) (by omega))) ?_
      refine WL.nil ?_
      refine WY.one 16 (by decide +kernel) rfl rfl ?_
      refine WL1.storeV1 rfl rfl (.mk rfl rfl) (.mk rfl rfl) rfl rfl (by first | omega | (simp; done) | (simp; omega)) (.tail (.head)) ?_
      refine WL.nil ?_
      refine WY.done (by decide +kernel) ?_
      (refine hK _ _ ?_; clear hK)
      refine WC.region rfl ?_
      refine WL.want rfl (WL1.give rfl (g_add rfl (.mk rfl rfl) (.mk rfl rfl) (IntWalk.i64_in _ (by omega))) ?_)
      refine WL.want rfl (WL1.give rfl (g_move rfl (.mk (v := .int _ _) rfl rfl)) ?_)
      refine WL.nil ?_
      rotate_left
      refine WL1.give rfl (g_load rfl (.mk rfl rfl) rfl (rd_sl hs2 (get1 (by omega)))) ?_
      refine WL.nil ?_
      refine WY.one 5 (by decide +kernel) rfl rfl ?_
      refine WL1.give rfl (g_load rfl (.mk rfl rfl) rfl (rd_vec (.head _) (get1 (by omega)))) ?_
      refine WL.nil ?_
      refine WY.one 11 (by decide +kernel) rfl rfl ?_
      (refine WL1.callN rfl rfl rfl (.cons (.mk (v := .slice _ _ _) rfl rfl) (.cons (.mk (v := .slice _ _ _) rfl rfl) (.cons (.mk (v := .int _ _) rfl rfl) .nil))) (fun w hw => fused_n _ _ (nth rs i).l (nth rb k).l (nth (nth ra i).l k) w (Sl.of_rowA hw (by repeat (first | exact .head _ | apply List.Mem.tail)) (by omega)) ((hb.row hlt2).below hw.1) (by omega) (by omega)) ?_; rintro _ _ ⟨Af, cf, rfl, rfl⟩)
      refine WL.nil ?_
      refine WY.take 12 rfl (by decide +kernel) (by decide +kernel) (by decide +kernel) rfl rfl (g_move rfl (.mk (v := .tuple _) rfl rfl)) ?_
      refine WY.take 13 rfl (by decide +kernel) (by decide +kernel) (by decide +kernel) rfl rfl (g_extract rfl (.mk rfl rfl) rfl) ?_
      refine WY.take 14 rfl (by decide +kernel) (by decide +kernel) (by decide +kernel) rfl rfl (g_extract rfl (.mk rfl rfl) rfl) ?_
      refine WY.one 15 (by decide +kernel) rfl rfl ?_
      refine WL1.give rfl (g_indexAddr (sz := 1) rfl (.mk rfl rfl) (.mk rfl rfl) rfl rfl rfl (by omega) (fun w hw => vec_some hw (.tail _ (.head _)) (by omega))) ?_
      refine WL.nil ?_
      refine WY.one 16 (by decide +kernel) rfl rfl ?_
      refine WL1.storeV1 rfl rfl (.mk rfl rfl) (.mk rfl rfl) rfl rfl (by first | omega | (simp; done) | (simp; omega)) (.tail (.head)) ?_
      refine WL.nil ?_
      refine WY.done (by decide +kernel) ?_
      (refine hK _ _ ?_; clear hK)
      refine WC.region rfl ?_
      refine WL.want rfl (WL1.give rfl (g_add rfl (.mk rfl rfl) (.mk rfl rfl) (IntWalk.i64_in _ (by omega))) ?_)
      refine WL.want rfl (WL1.give rfl (g_move rfl (.mk (v := .int _ _) rfl rfl)) ?_)
      refine WL.nil ?_
      rotate_left
      refine WL1.give rfl (g_load rfl (.mk rfl rfl) rfl (rd_sl hs2 (get1 (by omega)))) ?_
      refine WL.nil ?_
      refine WY.one 4 (by decide +kernel) rfl rfl ?_
      refine WL1.give rfl (g_indexAddr (sz := 1) rfl (.mk rfl rfl) (.mk rfl rfl) rfl rfl rfl (by omega) (fun w hw => vec_some hw (.head _) (by omega))) ?_
      refine WL.nil ?_
      refine WY.one 5 (by decide +kernel) rfl rfl ?_
      refine WL1.give rfl (g_load rfl (.mk rfl rfl) rfl (rd_vec (.head _) (get1 (by omega)))) ?_
      refine WL.nil ?_
      refine WY.one 11 (by decide +kernel) rfl rfl ?_
      (refine WL1.callN rfl rfl rfl (.cons (.mk (v := .slice _ _ _) rfl rfl) (.cons (.mk (v := .slice _ _ _) rfl rfl) (.cons (.mk (v := .int _ _) rfl rfl) .nil))) (fun w hw => fused_n _ _ (nth rs i).l (nth rb k).l (nth (nth ra i).l k) w (Sl.of_rowA hw (by repeat (first | exact .head _ | apply List.Mem.tail)) (by omega)) ((hb.row hlt2).below hw.1) (by omega) (by omega)) ?_; rintro _ _ ⟨Af, cf, rfl, rfl⟩)
      refine WL.nil ?_
      refine WY.take 12 rfl (by decide +kernel) (by decide +kernel) (by decide +kernel) rfl rfl (g_move rfl (.mk (v := .tuple _) rfl rfl)) ?_
      refine WY.take 13 rfl (by decide +kernel) (by decide +kernel) (by decide +kernel) rfl rfl (g_extract rfl (.mk rfl rfl) rfl) ?_
      refine WY.take 14 rfl (by decide +kernel) (by decide +kernel) (by decide +kernel) rfl rfl (g_extract rfl (.mk rfl rfl) rfl) ?_
      refine WY.one 15 (by decide +kernel) rfl rfl ?_
      refine WL1.give rfl (g_indexAddr (sz := 1) rfl (.mk rfl rfl) (.mk rfl rfl) rfl rfl rfl (by omega) (fun w hw => vec_some hw (.tail _ (.head _)) (by omega))) ?_
      refine WL.nil ?_
      refine WY.one 16 (by decide +kernel) rfl rfl ?_
      refine WL1.storeV1 rfl rfl (.mk rfl rfl) (.mk rfl rfl) rfl rfl (by first | omega | (simp; done) | (simp; omega)) (.tail (.head)) ?_
      refine WL.nil ?_
      refine WY.done (by decide +kernel) ?_
      (refine hK _ _ ?_; clear hK)
      refine WC.region rfl ?_
      refine WL.want rfl (WL1.give rfl (g_add rfl (.mk rfl rfl) (.mk rfl rfl) (IntWalk.i64_in _ (by omega))) ?_)
      refine WL.want rfl (WL1.give rfl (g_move rfl (.mk (v := .int _ _) rfl rfl)) ?_)
      refine WL.nil ?_
      rotate_left
      all_goals
        refine ⟨k + 1, rs.set i ⟨Af, cf, gfused (nth rs i).l (nth rb k).l (nth (nth ra i).l k)⟩, (by repeat (first | with_reducible exact Out.refl _ _ | refine Out.set rfl ?_ | refine Out.put rfl ?_ | refine Out.sets rfl ?_ | refine Out.hav rfl ?_ | exact Out.refl _ _)), ⟨rfl, trivial⟩, ?_, ⟨by omega, by rw [List.length_set, hrl], by rw [els_set, hre, prg_set hlt, hgf]⟩, by omega⟩
        rw [rowsv_set, Nat.mul_one, v_of hgl, own_of hgl]
        exact Imp.put2 (by repeat (first | exact .head | apply Take.tail)) (by repeat (first | exact .head | apply Swap.tail)) (by omega)
    · obtain rfl : k = rb.length := by omega
      (refine WC.seq ?_; intro K hK)
      refine WC.region rfl ?_
      refine WL.want rfl (WL1.give rfl (g_lt rfl (.mk rfl rfl) (.mk rfl rfl) (decide_eq_false (by omega))) ?_)
      refine WL.nil ?_
      (refine hK _ _ ?_; clear hK)
      (refine WC.seq ?_; intro K hK)
      refine WC.cond_false (.mk rfl rfl) ?_
      refine WC.exit ?_
      (clear hK; refine hK _ _ ?_; clear hK)
      refine WC.region rfl ?_
      refine WL.want rfl (WL1.give rfl (g_add rfl (.mk rfl rfl) (.mk rfl rfl) (IntWalk.i64_in _ (by omega))) ?_)
      refine WL.want rfl (WL1.give rfl (g_move rfl (.mk (v := .int _ _) rfl rfl)) ?_)
      refine WL.nil ?_
      exact ⟨i + 1, rs, (by repeat (first | with_reducible exact Out.refl _ _ | refine Out.set rfl ?_ | refine Out.put rfl ?_ | refine Out.sets rfl ?_ | refine Out.hav rfl ?_ | exact Out.refl _ _)), ⟨rfl, trivial⟩, .refl _, ⟨by omega, hrl, by rw [hre, ← prg_next, hF]⟩, by omega⟩
  · obtain rfl : i = ra.length := by omega
    (refine WC.seq ?_; intro K hK)
    refine WC.region rfl ?_
    refine WL.want rfl (WL1.give rfl (g_lt rfl (.mk rfl rfl) (.mk rfl rfl) (decide_eq_false (by omega))) ?_)
    refine WL.nil ?_
    (refine hK _ _ ?_; clear hK)
    (refine WC.seq ?_; intro K hK)
    refine WC.cond_false (.mk rfl rfl) ?_
    refine WC.exit ?_
    (clear hK; refine hK _ _ ?_; clear hK)
    (refine WC.seq ?_; intro K hK)
    refine WC.region rfl ?_
    refine WL.want rfl (WL1.give rfl (g_move rfl (.mk (v := .slice _ _ _) rfl rfl)) ?_)
    refine WL.want rfl (WL1.give rfl (g_assign rfl (.mk (v := .slice _ _ _) rfl rfl)) ?_)
    refine WL.want rfl (WL1.give rfl (g_assign rfl (.mk (v := .int _ _) rfl rfl)) ?_)
    refine WL.nil ?_
    (refine hK _ _ ?_; clear hK)
    refine WC.ret ?_
    exact fun w' hw' => ⟨_, _, rfl, hw', Ao, co, rs, by show Value.tuple #[.slice Ao r0.length co, iv 0] = _; rw [hrl, hrl0], by rw [matM, hrl, hrl0], by rw [hre, prg_all, hF, mulM, els_len, els_len, els_at (by omega)], hrl⟩
set_option maxRecDepth 20000 in
set_option maxHeartbeats 1000000 in
theorem mul_bad (va vb : Value) (ra rb : List Row) (w : World) (ha : MatAt w va ra) (hb : MatAt w vb rb) (h : ¬ (Good (els ra) ∧ Good (els rb) ∧ (nth ra 0).l.length = rb.length)) :
    Calls Try.prog 31 #[va, vb] w fun e w' => e = .returned (.tuple #[.slice none 0 0, iv 1]) ∧ Below w.heap.size w w' := by
  obtain ⟨A, c, rfl, hc, hm, hs⟩ := ha.1.open_
  obtain ⟨A2, c2, rfl, hc2, hm2, hs2⟩ := hb.1.open_
  have hval := fun w' hb => valid_e _ ra w' (ha.below (w' := w') hb)
  have hval2 := fun w' hx => valid_e _ rb w' (hb.below (w' := w') hx)
  by_cases hg : Good (els ra)
  · rw [goodB_iff.2 hg] at hval
    obtain ⟨g1, g2, g3, g4⟩ := hg.parts
    by_cases hgb : Good (els rb)
    · rw [goodB_iff.2 hgb] at hval2
      have hne : (nth ra 0).l.length ≠ rb.length := fun e => h ⟨hg, hgb, e⟩
      refine calls_wc (args := [.slice A ra.length c, .slice A2 rb.length c2]) [4, 5] [] Try.func31 rfl Try.ntmps31 rfl rfl rfl rfl (H.refl w) ?_
      (refine WC.seq ?_; intro K hK)
      refine WC.region rfl ?_
      refine WL.want rfl (WL1.give rfl (g_assign rfl (.mk (v := .slice _ _ _) rfl rfl)) ?_)
      refine WL.want rfl (WL1.give rfl (g_assign rfl (.mk (v := .int _ _) rfl rfl)) ?_)
      refine WL.nil ?_
      (refine hK _ _ ?_; clear hK)
      (refine WC.seq ?_; intro K hK)
      (refine WC.seq ?_; intro K hK)
      refine WC.region rfl ?_
      refine WL.want rfl (WL1.give rfl (g_move rfl (.mk (v := .slice _ _ _) rfl rfl)) ?_)
      refine WL.want rfl (WL1.callP rfl rfl rfl (.cons (.mk (v := .slice _ _ _) rfl rfl) .nil) (fun w hw => hval w hw.1) ?_)
      refine WL.want rfl (WL1.give rfl (g_notT rfl (.mk rfl rfl)) ?_)
      refine WL.want rfl (WL1.give rfl (g_move rfl (.mk (v := .bool _) rfl rfl)) ?_)
      refine WL.wantG rfl rfl rfl rfl (WL1.give rfl (g_move rfl (.mk (v := .slice _ _ _) rfl rfl)) ?_)
      refine WL.wantG rfl rfl rfl rfl (WL1.callP rfl rfl rfl (.cons (.mk (v := .slice _ _ _) rfl rfl) .nil) (fun w hw => hval2 w hw.1) ?_)
      refine WL.wantG rfl rfl rfl rfl (WL1.give rfl (g_notT rfl (.mk rfl rfl)) ?_)
      refine WL.want rfl (WL1.give rfl (g_pickF rfl (.mk rfl rfl) (.mk (v := .bool _) rfl rfl)) ?_)
      refine WL.want rfl (WL1.give rfl (g_move rfl (.mk (v := .bool _) rfl rfl)) ?_)
      refine WL.wantG rfl rfl rfl rfl (WL1.give rfl (g_move rfl (.mk (v := .slice _ _ _) rfl rfl)) ?_)
      refine WL.wantG rfl rfl rfl rfl (WL1.give rfl (g_indexAddr (sz := 1) rfl (.mk rfl rfl) (.mk rfl rfl) rfl rfl (show _ = ((0 : Nat) : Int) from rfl) (by omega) (fun _ _ => sl_some hs (by omega))) ?_)
      refine WL.wantG rfl rfl rfl rfl (WL1.give rfl (g_load rfl (.mk rfl rfl) rfl (rd_sl hs (get1 (by omega)))) ?_)
      refine WL.wantG rfl rfl rfl rfl (WL1.give rfl (g_len rfl (.mk rfl rfl) rfl) ?_)
      refine WL.wantG rfl rfl rfl rfl (WL1.give rfl (g_move rfl (.mk (v := .slice _ _ _) rfl rfl)) ?_)
      refine WL.wantG rfl rfl rfl rfl (WL1.give rfl (g_len rfl (.mk rfl rfl) rfl) ?_)
      refine WL.wantG rfl rfl rfl rfl (WL1.give rfl (g_ne rfl (.mk rfl rfl) (.mk rfl rfl) (decide_eq_true (by omega))) ?_)
      refine WL.want rfl (WL1.give rfl (g_pickF rfl (.mk rfl rfl) (.mk (v := .bool _) rfl rfl)) ?_)
      refine WL.nil ?_
      (refine hK _ _ ?_; clear hK)
      refine WC.cond_true (.mk rfl rfl) ?_
      (refine WC.seq ?_; intro K hK)
      refine WC.region rfl ?_
      refine WL.want rfl (WL1.give rfl (g_assign rfl (.mk (v := .slice _ _ _) rfl rfl)) ?_)
      refine WL.want rfl (WL1.give rfl (g_assign rfl (.mk (v := .int _ _) rfl rfl)) ?_)
      refine WL.nil ?_
      (refine hK _ _ ?_; clear hK)
      refine WC.ret ?_
      exact fun w' hw' => ⟨rfl, hw'.1⟩
    · rw [goodB_no hgb] at hval2
      refine calls_wc (args := [.slice A ra.length c, .slice A2 rb.length c2]) [4, 5] [] Try.func31 rfl Try.ntmps31 rfl rfl rfl rfl (H.refl w) ?_
      (refine WC.seq ?_; intro K hK)
      refine WC.region rfl ?_
      refine WL.want rfl (WL1.give rfl (g_assign rfl (.mk (v := .slice _ _ _) rfl rfl)) ?_)
      refine WL.want rfl (WL1.give rfl (g_assign rfl (.mk (v := .int _ _) rfl rfl)) ?_)
      refine WL.nil ?_
      (refine hK _ _ ?_; clear hK)
      (refine WC.seq ?_; intro K hK)
      (refine WC.seq ?_; intro K hK)
      refine WC.region rfl ?_
      refine WL.want rfl (WL1.give rfl (g_move rfl (.mk (v := .slice _ _ _) rfl rfl)) ?_)
      refine WL.want rfl (WL1.callP rfl rfl rfl (.cons (.mk (v := .slice _ _ _) rfl rfl) .nil) (fun w hw => hval w hw.1) ?_)
      refine WL.want rfl (WL1.give rfl (g_notT rfl (.mk rfl rfl)) ?_)
      refine WL.want rfl (WL1.give rfl (g_move rfl (.mk (v := .bool _) rfl rfl)) ?_)
      refine WL.wantG rfl rfl rfl rfl (WL1.give rfl (g_move rfl (.mk (v := .slice _ _ _) rfl rfl)) ?_)
      refine WL.wantG rfl rfl rfl rfl (WL1.callP rfl rfl rfl (.cons (.mk (v := .slice _ _ _) rfl rfl) .nil) (fun w hw => hval2 w hw.1) ?_)
      refine WL.wantG rfl rfl rfl rfl (WL1.give rfl (g_notF rfl (.mk rfl rfl)) ?_)
      refine WL.want rfl (WL1.give rfl (g_pickF rfl (.mk rfl rfl) (.mk (v := .bool _) rfl rfl)) ?_)
      refine WL.want rfl (WL1.give rfl (g_move rfl (.mk (v := .bool _) rfl rfl)) ?_)
      refine WL.skipG rfl rfl rfl rfl rfl rfl ?_
      refine WL.skipG rfl rfl rfl rfl rfl rfl ?_
      refine WL.skipG rfl rfl rfl rfl rfl rfl ?_
      refine WL.skipG rfl rfl rfl rfl rfl rfl ?_
      refine WL.skipG rfl rfl rfl rfl rfl rfl ?_
      refine WL.skipG rfl rfl rfl rfl rfl rfl ?_
      refine WL.skipG rfl rfl rfl rfl rfl rfl ?_
      refine WL.want rfl (WL1.give rfl (g_pickT rfl (.mk rfl rfl) (.mk (v := .bool _) rfl rfl)) ?_)
      refine WL.nil ?_
      (refine hK _ _ ?_; clear hK)
      refine WC.cond_true (.mk rfl rfl) ?_
      (refine WC.seq ?_; intro K hK)
      refine WC.region rfl ?_
      refine WL.want rfl (WL1.give rfl (g_assign rfl (.mk (v := .slice _ _ _) rfl rfl)) ?_)
      refine WL.want rfl (WL1.give rfl (g_assign rfl (.mk (v := .int _ _) rfl rfl)) ?_)
      refine WL.nil ?_
      (refine hK _ _ ?_; clear hK)
      refine WC.ret ?_
      exact fun w' hw' => ⟨rfl, hw'.1⟩
  · rw [goodB_no hg] at hval
    refine calls_wc (args := [.slice A ra.length c, .slice A2 rb.length c2]) [4, 5] [] Try.func31 rfl Try.ntmps31 rfl rfl rfl rfl (H.refl w) ?_
    (refine WC.seq ?_; intro K hK)
    refine WC.region rfl ?_
    refine WL.want rfl (WL1.give rfl (g_assign rfl (.mk (v := .slice _ _ _) rfl rfl)) ?_)
    refine WL.want rfl (WL1.give rfl (g_assign rfl (.mk (v := .int _ _) rfl rfl)) ?_)
    refine WL.nil ?_
    (refine hK _ _ ?_; clear hK)
    (refine WC.seq ?_; intro K hK)
    (refine WC.seq ?_; intro K hK)
    refine WC.region rfl ?_
    refine WL.want rfl (WL1.give rfl (g_move rfl (.mk (v := .slice _ _ _) rfl rfl)) ?_)
    refine WL.want rfl (WL1.callP rfl rfl rfl (.cons (.mk (v := .slice _ _ _) rfl rfl) .nil) (fun w hw => hval w hw.1) ?_)
    refine WL.want rfl (WL1.give rfl (g_notF rfl (.mk rfl rfl)) ?_)
    refine WL.want rfl (WL1.give rfl (g_move rfl (.mk (v := .bool _) rfl rfl)) ?_)
    refine WL.skipG rfl rfl rfl rfl rfl rfl ?_
    refine WL.skipG rfl rfl rfl rfl rfl rfl ?_
    refine WL.skipG rfl rfl rfl rfl rfl rfl ?_
    refine WL.want rfl (WL1.give rfl (g_pickT rfl (.mk rfl rfl) (.mk (v := .bool _) rfl rfl)) ?_)
    refine WL.want rfl (WL1.give rfl (g_move rfl (.mk (v := .bool _) rfl rfl)) ?_)
    refine WL.skipG rfl rfl rfl rfl rfl rfl ?_
    refine WL.skipG rfl rfl rfl rfl rfl rfl ?_
    refine WL.skipG rfl rfl rfl rfl rfl rfl ?_
    refine WL.skipG rfl rfl rfl rfl rfl rfl ?_
    refine WL.skipG rfl rfl rfl rfl rfl rfl ?_
    refine WL.skipG rfl rfl rfl rfl rfl rfl ?_
    refine WL.skipG rfl rfl rfl rfl rfl rfl ?_
    refine WL.want rfl (WL1.give rfl (g_pickT rfl (.mk rfl rfl) (.mk (v := .bool _) rfl rfl)) ?_)
    refine WL.nil ?_
    (refine hK _ _ ?_; clear hK)
    refine WC.cond_true (.mk rfl rfl) ?_
    (refine WC.seq ?_; intro K hK)
    refine WC.region rfl ?_
    refine WL.want rfl (WL1.give rfl (g_assign rfl (.mk (v := .slice _ _ _) rfl rfl)) ?_)
    refine WL.want rfl (WL1.give rfl (g_assign rfl (.mk (v := .int _ _) rfl rfl)) ?_)
    refine WL.nil ?_
    (refine hK _ _ ?_; clear hK)
    refine WC.ret ?_
    exact fun w' hw' => ⟨rfl, hw'.1⟩
/-- The transposed matrix. -/
def trM (m : List (List G)) : List (List G) := (List.range (nth m 0).length).map fun k => (List.range m.length).map fun i => el m i k
/-- The first i columns are done, of column i the first k. -/
def trP (m : List (List G)) (n r i k : Nat) : List (List G) := (List.range n).map fun q => (List.range r).map fun p => if p < i ∨ (p = i ∧ q < k) then el m p q else 0
theorem trP_len (m : List (List G)) (n r i k : Nat) : (trP m n r i k).length = n := by simp [trP]
theorem trP_zero (m : List (List G)) (n r : Nat) : List.replicate n (zrow r) = trP m n r 0 0 := by
  refine List.ext_getElem (by simp [trP]) fun q h1 h2 => List.ext_getElem (by simp [trP, zrow]) fun p h3 h4 => ?_
  simp [trP, zrow]
theorem trP_next (m : List (List G)) (n r i : Nat) : trP m n r i n = trP m n r (i + 1) 0 := List.map_congr_left fun q hq => List.map_congr_left fun p hp => by
  have hq' : q < n := by simpa using hq
  by_cases e : p < i + 1
  · rw [if_pos (by omega), if_pos (.inl e)]
  · rw [if_neg (by omega), if_neg (by omega)]
theorem trP_set {m : List (List G)} {n r i k : Nat} (hi : i < r) (hk : k < n) : (trP m n r i k).set k ((nth (trP m n r i k) k).set i (el m i k)) = trP m n r i (k + 1) := by
  have hrow : ∀ k' q, q < n → nth (trP m n r i k') q = (List.range r).map fun p => if p < i ∨ (p = i ∧ q < k') then el m p q else 0 := fun k' q hq => nth_range _ hq
  refine list_ext_nth (by rw [List.length_set, trP_len, trP_len]) fun q hq => ?_
  rw [List.length_set, trP_len] at hq
  rw [nth_put (by rw [trP_len]; exact hk), hrow _ _ hk, hrow _ _ hq]
  by_cases e : q = k
  · subst e
    rw [if_pos rfl, hrow _ _ hq]
    refine list_ext_nth (by simp) fun p hp => ?_
    have hp' : p < r := by simpa using hp
    rw [nth_put (by simpa using hi), nth_range _ hp', nth_range _ hp']
    by_cases e2 : p = i
    · subst e2; rw [if_pos rfl, if_pos (by omega)]
    · rw [if_neg e2]
      by_cases e3 : p < i
      · rw [if_pos (.inl e3), if_pos (.inl e3)]
      · rw [if_neg (by omega), if_neg (by omega)]
  · rw [if_neg e, hrow _ _ hq]
    refine List.map_congr_left fun p _ => ?_
    by_cases e3 : p < i ∨ (p = i ∧ q < k)
    · rw [if_pos e3, if_pos (by omega)]
    · rw [if_neg e3, if_neg (by omega)]
end Go.Proofs.Ytlcddlipcdimeaa
namespace Go.Proofs.Ytlcddlipcdimeaa
/-- The first number below n for which p holds. -/
def fnd (p : Nat → Bool) : Nat → Option Nat
  | 0 => none
  | n + 1 => match fnd p n with
    | some j => some j
    | none => if p n then some n else none
theorem fnd_none {p : Nat → Bool} : ∀ {n : Nat}, fnd p n = none → ∀ i, i < n → p i = false
  | 0, _, i, hi => absurd hi (by omega)
  | n + 1, h, i, hi => by
    unfold fnd at h
    cases hf : fnd p n with
    | some j => rw [hf] at h; cases h
    | none =>
      rw [hf] at h
      by_cases hp : p n = true
      · simp [hp] at h
      · by_cases e : i = n
        · rw [e]; simpa using hp
        · exact fnd_none hf i (by omega)
theorem fnd_some {p : Nat → Bool} : ∀ {n j : Nat}, fnd p n = some j → j < n ∧ p j = true ∧ ∀ i, i < j → p i = false
  | 0, _, h => by cases h
  | n + 1, j, h => by
    unfold fnd at h
    cases hf : fnd p n with
    | some k =>
      rw [hf] at h
      simp only [Option.some.injEq] at h
      subst h
      obtain ⟨h1, h2, h3⟩ := fnd_some hf
      exact ⟨by omega, h2, h3⟩
    | none =>
      rw [hf] at h
      by_cases hp : p n = true
      · simp only [hp, if_true, Option.some.injEq] at h
        subst h
        exact ⟨by omega, hp, fnd_none hf⟩
      · simp [hp] at h
theorem fnd_eq {p : Nat → Bool} {n j : Nat} (hj : j < n) (hp : p j = true) (h : ∀ i, i < j → p i = false) : fnd p n = some j := by
  cases hf : fnd p n with
  | none => rw [fnd_none hf j hj] at hp; cases hp
  | some k =>
    obtain ⟨h1, h2, h3⟩ := fnd_some hf
    rcases Nat.lt_trichotomy j k with h4 | h4 | h4
    · rw [h3 j h4] at hp; cases hp
    · rw [h4]
    · rw [h k h4] at h2; cases h2
theorem fnd_all {p : Nat → Bool} {n : Nat} (h : ∀ i, i < n → p i = false) : fnd p n = none := by
  cases hf : fnd p n with
  | none => rfl
  | some k =>
    obtain ⟨h1, h2, _⟩ := fnd_some hf
    rw [h k h1] at h2; cases h2
def fz : Option Nat → Int
  | some k => k
  | none => -1
def nz (x : G) : Bool := decide (x ≠ 0)
theorem nz_t {x : G} : nz x = true ↔ x ≠ 0 := by unfold nz; simp
theorem nz_f {x : G} : nz x = false ↔ x = 0 := by unfold nz; simp
/-- The row that is exchanged with row c, counted from c. -/
def pvt (a : List (List G)) (n c : Nat) : Option Nat := fnd (fun k => nz (el a (c + k) c)) (n - c)
def swp (a : List (List G)) (c q : Nat) : List (List G) := (a.set c (nth a q)).set q (nth a c)
def nrm (a : List (List G)) (w c : Nat) : List (List G) := a.set c (gfused (zrow w) (nth a c) (ginv (el a c c)))
/-- The rows below i are cleared. -/
def elm (a : List (List G)) (n c i : Nat) : List (List G) := (List.range n).map fun q => if q < i ∧ q ≠ c then gfused (nth a q) (nth a c) (el a q c) else nth a q
def stp (a : List (List G)) (n c q : Nat) : List (List G) := elm (nrm (swp a c (c + q)) (2 * n) c) n c n
/-- The last k columns. -/
def gjr (n : Nat) : Nat → List (List G) → Option (List (List G))
  | 0, a => some a
  | k + 1, a => match pvt a n (n - (k + 1)) with
    | none => none
    | some q => gjr n k (stp a n (n - (k + 1)) q)
def aug (m : List (List G)) (n : Nat) : List (List G) := (List.range n).map fun i => nth m i ++ (List.range n).map fun j => dlt i j
def invM (m : List (List G)) : Option (List (List G)) := (gjr m.length m.length (aug m m.length)).map fun a => a.map (List.drop m.length)
/-- The shape of what is worked on. -/
def Shp (a : List (List G)) (n w : Nat) : Prop := a.length = n ∧ ∀ i, i < n → (nth a i).length = w
section
variable {a : List (List G)} {n w c q i : Nat}
theorem swp_len : (swp a c q).length = a.length := by simp [swp]
theorem swp_row (hc : c < a.length) (hq : q < a.length) (i : Nat) : nth (swp a c q) i = if i = q then nth a c else if i = c then nth a q else nth a i := by
  unfold swp
  rw [nth_put (by simpa using hq), nth_put hc]
theorem swp_shp (h : Shp a n w) (hc : c < n) (hq : q < n) : Shp (swp a c q) n w := by
  refine ⟨by rw [swp_len, h.1], fun i hi => ?_⟩
  rw [swp_row (by rw [h.1]; exact hc) (by rw [h.1]; exact hq)]
  split
  · exact h.2 c hc
  · split
    · exact h.2 q hq
    · exact h.2 i hi
theorem nrm_row (h : Shp a n w) (hc : c < n) (i : Nat) : nth (nrm a w c) i = if i = c then gfused (zrow w) (nth a c) (ginv (el a c c)) else nth a i := by
  unfold nrm
  rw [nth_put (by rw [h.1]; exact hc)]
theorem nrm_shp (h : Shp a n w) (hc : c < n) : Shp (nrm a w c) n w := by
  refine ⟨by unfold nrm; rw [List.length_set, h.1], fun i hi => ?_⟩
  rw [nrm_row h hc]
  split
  · rw [gfused_length _ _ _ (by rw [zrow_len, h.2 c hc]), zrow_len]
  · exact h.2 i hi
theorem elm_len : (elm a n c i).length = n := by simp [elm]
theorem elm_row {q : Nat} (hq : q < n) : nth (elm a n c i) q = if q < i ∧ q ≠ c then gfused (nth a q) (nth a c) (el a q c) else nth a q := nth_range _ hq
theorem elm_shp (h : Shp a n w) (hc : c < n) : Shp (elm a n c i) n w := by
  refine ⟨elm_len, fun q hq => ?_⟩
  rw [elm_row hq]
  split
  · rw [gfused_length _ _ _ (by rw [h.2 q hq, h.2 c hc]), h.2 q hq]
  · exact h.2 q hq
theorem elm_zero (h : a.length = n) : elm a n c 0 = a := list_ext_nth (by rw [elm_len, h]) fun q hq => by
  rw [elm_len] at hq
  rw [elm_row hq, if_neg (by omega)]
theorem elm_skip (h : i = c) : elm a n c i = elm a n c (i + 1) := List.map_congr_left fun q _ => by
  by_cases e : q < i ∧ q ≠ c
  · rw [if_pos e, if_pos (by omega)]
  · rw [if_neg e, if_neg (by omega)]
theorem elm_set (hi : i < n) (hne : i ≠ c) : (elm a n c i).set i (gfused (nth a i) (nth a c) (el a i c)) = elm a n c (i + 1) := list_ext_nth (by rw [List.length_set, elm_len, elm_len]) fun q hq => by
  rw [List.length_set, elm_len] at hq
  rw [nth_put (by rw [elm_len]; exact hi), elm_row hq, elm_row hq]
  by_cases e : q = i
  · subst e; rw [if_pos rfl, if_pos (by omega)]
  · rw [if_neg e]
    by_cases e2 : q < i ∧ q ≠ c
    · rw [if_pos e2, if_pos (by omega)]
    · rw [if_neg e2, if_neg (by omega)]
/-! elements -/
theorem fused_el {d s : List G} {w : Nat} (x : G) (h1 : d.length = w) (h2 : s.length = w) {j : Nat} (hj : j < w) : nth (gfused d s x) j = nth d j + x * nth s j := by rw [gfused_map x h1 h2, nth_range _ hj]
theorem swp_el (h : Shp a n w) (hc : c < n) (hq : q < n) (i j : Nat) : el (swp a c q) i j = if i = q then el a c j else if i = c then el a q j else el a i j := by
  unfold el
  rw [swp_row (by rw [h.1]; exact hc) (by rw [h.1]; exact hq)]
  split
  · rfl
  · split <;> rfl
theorem nrm_el (h : Shp a n w) (hc : c < n) (i : Nat) {j : Nat} (hj : j < w) : el (nrm a w c) i j = if i = c then ginv (el a c c) * el a c j else el a i j := by
  unfold el
  rw [nrm_row h hc]
  split
  · rw [fused_el (w := w) _ (zrow_len _) (h.2 c hc) hj, zrow_nth hj, G.zero_add]; rfl
  · rfl
theorem elm_el (h : Shp a n w) (hc : c < n) {i j : Nat} (hi : i < n) (hj : j < w) : el (elm a n c n) i j = if i = c then el a c j else el a i j + el a i c * el a c j := by
  unfold el
  rw [elm_row hi]
  by_cases e : i = c
  · rw [if_neg (by omega), if_pos e, e]
  · rw [if_pos ⟨hi, e⟩, if_neg e, fused_el (w := w) _ (h.2 i hi) (h.2 c hc) hj]; rfl
end
/-- What holds when c columns are done. -/
structure Inv (m a : List (List G)) (n c : Nat) : Prop where
  shp : Shp a n (2 * n)
  fac : ∀ i, i < n → ∀ j, j < n → el a i j = gsum n fun k => el a i (n + k) * el m k j
  ker : ∀ x : Nat → G, (∀ i, i < n → gsum n (fun j => el a i j * x j) = 0) → ∀ i, i < n → gsum n (fun j => el m i j * x j) = 0
  one : ∀ i, i < n → ∀ j, j < c → el a i j = dlt i j
theorem aug_row {m : List (List G)} {n i : Nat} (hi : i < n) : nth (aug m n) i = nth m i ++ (List.range n).map fun j => dlt i j := nth_range _ hi
theorem nth_app {α : Type} [Inhabited α] (a b : List α) (k : Nat) : nth (a ++ b) k = if k < a.length then nth a k else nth b (k - a.length) := by
  unfold nth
  simp only [List.getD_eq_getElem?_getD]
  by_cases h : k < a.length
  · rw [if_pos h, List.getElem?_append_left h]
  · rw [if_neg h, List.getElem?_append_right (by omega)]
theorem aug_inv {m : List (List G)} {n : Nat} (h : Shp m n n) : Inv m (aug m n) n 0 := by
  have e1 : ∀ i, i < n → ∀ j, j < n → el (aug m n) i j = el m i j := fun i hi j hj => by
    unfold el; rw [aug_row hi, nth_app, if_pos (by rw [h.2 i hi]; exact hj)]
  have e2 : ∀ i, i < n → ∀ j, j < n → el (aug m n) i (n + j) = dlt i j := fun i hi j hj => by
    unfold el; rw [aug_row hi, nth_app, if_neg (by rw [h.2 i hi]; omega), h.2 i hi, Nat.add_sub_cancel_left, nth_range _ hj]
  refine ⟨⟨by simp [aug], fun i hi => ?_⟩, fun i hi j hj => ?_, fun x hx i hi => ?_, fun i hi j hj => absurd hj (by omega)⟩
  · rw [aug_row hi, List.length_append, h.2 i hi]; simp; omega
  · rw [e1 i hi j hj]
    have : gsum n (fun k => el (aug m n) i (n + k) * el m k j) = gsum n (fun k => dlt i k * el m k j) := gsum_congr fun k hk => by rw [e2 i hi k hk]
    rw [this, gsum_dlt hi]
  · rw [← hx i hi]; exact gsum_congr fun j hj => by rw [e1 i hi j hj]
theorem swp_inv {m a : List (List G)} {n c q : Nat} (h : Inv m a n c) (hc : c < n) (hq : q < n) (hcq : c ≤ q) : Inv m (swp a c q) n c := by
  have E := fun i j => swp_el h.shp hc hq i j
  refine ⟨swp_shp h.shp hc hq, fun i hi j hj => ?_, fun x hx => h.ker x fun i hi => ?_, fun i hi j hj => ?_⟩
  · rw [E]
    by_cases e : i = q
    · rw [if_pos e, h.fac c hc j hj]; exact gsum_congr fun k _ => by rw [E, if_pos e]
    · by_cases e2 : i = c
      · rw [if_neg e, if_pos e2, h.fac q hq j hj]; exact gsum_congr fun k _ => by rw [E, if_neg e, if_pos e2]
      · rw [if_neg e, if_neg e2, h.fac i hi j hj]; exact gsum_congr fun k _ => by rw [E, if_neg e, if_neg e2]
  · by_cases e2 : i = c
    · have := hx q hq
      rw [e2, ← this]; exact gsum_congr fun k _ => by rw [E, if_pos rfl]
    · by_cases e : i = q
      · have := hx c hc
        rw [e, ← this]
        refine gsum_congr fun k _ => ?_
        rw [E]
        by_cases e3 : c = q
        · rw [if_pos e3, e3]
        · rw [if_neg e3, if_pos rfl]
      · rw [← hx i hi]; exact gsum_congr fun k _ => by rw [E, if_neg e, if_neg e2]
  · rw [E]
    by_cases e : i = q
    · rw [if_pos e, h.one c hc j hj, dlt_ne (by omega), dlt_ne (by omega)]
    · by_cases e2 : i = c
      · rw [if_neg e, if_pos e2, h.one q hq j hj, dlt_ne (by omega), dlt_ne (by omega)]
      · rw [if_neg e, if_neg e2, h.one i hi j hj]
theorem nrm_inv {m a : List (List G)} {n c : Nat} (h : Inv m a n c) (hc : c < n) (hp : el a c c ≠ 0) : Inv m (nrm a (2 * n) c) n c ∧ el (nrm a (2 * n) c) c c = 1 := by
  have E := fun i j (hj : j < 2 * n) => nrm_el h.shp hc i hj
  have hm := mul_ginv hp
  refine ⟨⟨nrm_shp h.shp hc, fun i hi j hj => ?_, fun x hx => h.ker x fun i hi => ?_, fun i hi j hj => ?_⟩, ?_⟩
  · rw [E i j (by omega)]
    by_cases e : i = c
    · rw [if_pos e, h.fac c hc j hj, mul_gsum]; exact gsum_congr fun k hk => by rw [E i (n + k) (by omega), if_pos e, G.mul_assoc]
    · rw [if_neg e, h.fac i hi j hj]; exact gsum_congr fun k hk => by rw [E i (n + k) (by omega), if_neg e]
  · by_cases e : i = c
    · have h1 := hx c hc
      have h2 : gsum n (fun j => el (nrm a (2 * n) c) c j * x j) = ginv (el a c c) * gsum n (fun j => el a c j * x j) := by
        rw [mul_gsum]; exact gsum_congr fun k hk => by rw [E c k (by omega), if_pos rfl, G.mul_assoc]
      rw [h2] at h1
      rcases mul_eq_zero_iff.1 h1 with h3 | h3
      · exact absurd h3 (ginv_ne hp)
      · rw [e]; exact h3
    · rw [← hx i hi]; exact gsum_congr fun k hk => by rw [E i k (by omega), if_neg e]
  · rw [E i j (by omega)]
    by_cases e : i = c
    · rw [if_pos e, h.one c hc j hj, dlt_ne (by omega), G.mul_zero, dlt_ne (by omega)]
    · rw [if_neg e, h.one i hi j hj]
  · rw [E c c (by omega), if_pos rfl, G.mul_comm]; exact hm
theorem elm_inv {m a : List (List G)} {n c : Nat} (h : Inv m a n c) (hc : c < n) (hp : el a c c = 1) : Inv m (elm a n c n) n (c + 1) := by
  have E := fun i j (hi : i < n) (hj : j < 2 * n) => elm_el h.shp hc hi hj
  refine ⟨elm_shp h.shp hc, fun i hi j hj => ?_, fun x hx => h.ker x fun i hi => ?_, fun i hi j hj => ?_⟩
  · rw [E i j hi (by omega)]
    by_cases e : i = c
    · rw [if_pos e, h.fac c hc j hj]; exact gsum_congr fun k hk => by rw [E i (n + k) hi (by omega), if_pos e]
    · rw [if_neg e, h.fac i hi j hj, h.fac c hc j hj, mul_gsum, ← gsum_add]; exact gsum_congr fun k hk => by rw [E i (n + k) hi (by omega), if_neg e, G.add_mul, G.mul_assoc]
  · have h1 : gsum n (fun j => el a c j * x j) = 0 := by
      rw [← hx c hc]; exact gsum_congr fun k hk => by rw [E c k hc (by omega), if_pos rfl]
    by_cases e : i = c
    · rw [e]; exact h1
    · have h2 := hx i hi
      have h3 : gsum n (fun j => el (elm a n c n) i j * x j) = gsum n (fun j => el a i j * x j) + el a i c * gsum n (fun j => el a c j * x j) := by
        rw [mul_gsum, ← gsum_add]; exact gsum_congr fun k hk => by rw [E i k hi (by omega), if_neg e, G.add_mul, G.mul_assoc]
      rw [h3, h1, G.mul_zero, G.add_zero] at h2
      exact h2
  · rw [E i j hi (by omega)]
    by_cases ej : j = c
    · subst ej
      by_cases e : i = j
      · rw [if_pos e, hp, e, dlt_self]
      · rw [if_neg e, hp, G.mul_one, G.add_self, dlt_ne e]
    · have hj' : j < c := by omega
      by_cases e : i = c
      · rw [if_pos e, h.one c hc j hj', e]
      · rw [if_neg e, h.one c hc j hj', dlt_ne (by omega), G.mul_zero, G.add_zero, h.one i hi j hj']
theorem stp_inv {m a : List (List G)} {n c q : Nat} (h : Inv m a n c) (hc : c < n) (hq : pvt a n c = some q) : c + q < n ∧ Inv m (stp a n c q) n (c + 1) := by
  obtain ⟨h1, h2, _⟩ := fnd_some hq
  have hlt : c + q < n := by omega
  refine ⟨hlt, ?_⟩
  have hs := swp_inv h hc hlt (by omega)
  have hp : el (swp a c (c + q)) c c ≠ 0 := by
    rw [swp_el h.shp hc hlt]
    have h3 := nz_t.1 h2
    by_cases e : c = c + q
    · rw [if_pos e]; rw [← e] at h3; exact h3
    · rw [if_neg e, if_pos rfl]; exact h3
  obtain ⟨hn, hn1⟩ := nrm_inv hs hc hp
  exact elm_inv hn hc hn1
theorem pvt_none {m a : List (List G)} {n c : Nat} (h : Inv m a n c) (hc : c < n) (hq : pvt a n c = none) : ∃ x : Nat → G, (∃ k, k < n ∧ x k ≠ 0) ∧ ∀ i, i < n → gsum n (fun j => el m i j * x j) = 0 := by
  have h0 : ∀ i, i < n → c ≤ i → el a i c = 0 := fun i hi hci => by
    have := fnd_none hq (i - c) (by omega)
    rw [show c + (i - c) = i from by omega] at this
    exact nz_f.1 this
  refine ⟨fun k => if k = c then 1 else if k < c then el a k c else 0, ⟨c, hc, by show (if c = c then (1 : G) else _) ≠ 0; rw [if_pos rfl]; exact one_ne_zero⟩, h.ker _ fun i hi => ?_⟩
  rw [gsum_take hc]
  show el a i c * (if c = c then 1 else _) + _ = 0
  rw [if_pos rfl, G.mul_one]
  by_cases hic : i < c
  · rw [gsum_one hi (a := i), if_neg (by omega)]
    · show el a i c + el a i i * (if i = c then 1 else if i < c then el a i c else 0) = 0
      rw [if_neg (by omega), if_pos hic, h.one i hi i hic, dlt_self, G.one_mul, G.add_self]
    · intro k hk hki
      by_cases e : k = c
      · rw [if_pos e]
      · rw [if_neg e]
        show el a i k * (if k = c then 1 else if k < c then el a k c else 0) = 0
        rw [if_neg e]
        by_cases e2 : k < c
        · rw [if_pos e2, h.one i hi k e2, dlt_ne (fun h => hki h.symm), G.zero_mul]
        · rw [if_neg e2, G.mul_zero]
  · rw [h0 i hi (by omega), G.zero_add]
    refine gsum_zero fun k hk => ?_
    by_cases e : k = c
    · rw [if_pos e]
    · rw [if_neg e]
      show el a i k * (if k = c then 1 else if k < c then el a k c else 0) = 0
      rw [if_neg e]
      by_cases e2 : k < c
      · rw [if_pos e2, h.one i hi k e2, dlt_ne (by omega), G.zero_mul]
      · rw [if_neg e2, G.mul_zero]
theorem gjr_some {m : List (List G)} {n : Nat} : ∀ {k : Nat} {a b : List (List G)}, k ≤ n → Inv m a n (n - k) → gjr n k a = some b → Inv m b n n
  | 0, a, b, _, h, e => by
    simp only [gjr, Option.some.injEq] at e
    subst e; exact h
  | k + 1, a, b, hk, h, e => by
    simp only [gjr] at e
    cases hp : pvt a n (n - (k + 1)) with
    | none => rw [hp] at e; cases e
    | some q =>
      rw [hp] at e
      have := (stp_inv h (by omega) hp).2
      rw [show n - (k + 1) + 1 = n - k from by omega] at this
      exact gjr_some (by omega) this e
theorem gjr_none {m : List (List G)} {n : Nat} : ∀ {k : Nat} {a : List (List G)}, k ≤ n → Inv m a n (n - k) → gjr n k a = none → ∃ x : Nat → G, (∃ k, k < n ∧ x k ≠ 0) ∧ ∀ i, i < n → gsum n (fun j => el m i j * x j) = 0
  | 0, a, _, _, e => by cases e
  | k + 1, a, hk, h, e => by
    simp only [gjr] at e
    cases hp : pvt a n (n - (k + 1)) with
    | none => exact pvt_none h (by omega) hp
    | some q =>
      rw [hp] at e
      have := (stp_inv h (by omega) hp).2
      rw [show n - (k + 1) + 1 = n - k from by omega] at this
      exact gjr_none (by omega) this e
theorem drop_nth {l : List G} {n k : Nat} : nth (l.drop n) k = nth l (n + k) := by unfold nth; simp [List.getD_eq_getElem?_getD, List.getElem?_drop]
theorem drops_el {a : List (List G)} {n : Nat} {i : Nat} (hi : i < a.length) (j : Nat) : el (a.map (List.drop n)) i j = el a i (n + j) := by
  unfold el; rw [nth_map _ hi, drop_nth]
/-- What is found is the inverse, on both sides. -/
theorem invM_some {m v : List (List G)} {n : Nat} (h : Shp m n n) (e : invM m = some v) : Shp v n n ∧ (∀ i, i < n → ∀ j, j < n → gsum n (fun k => el v i k * el m k j) = dlt i j) ∧ (∀ i, i < n → ∀ j, j < n → gsum n (fun k => el m i k * el v k j) = dlt i j) := by
  unfold invM at e
  rw [h.1] at e
  cases hg : gjr n n (aug m n) with
  | none => rw [hg] at e; cases e
  | some a =>
    rw [hg] at e
    simp only [Option.map_some, Option.some.injEq] at e
    have hi := gjr_some (Nat.le_refl n) (by rw [Nat.sub_self]; exact aug_inv h) hg
    have hs : Shp v n n := by
      subst e
      refine ⟨by rw [List.length_map, hi.shp.1], fun i hin => ?_⟩
      rw [nth_map _ (by rw [hi.shp.1]; exact hin), List.length_drop, hi.shp.2 i hin]; omega
    have hl : ∀ i, i < n → ∀ j, j < n → gsum n (fun k => el v i k * el m k j) = dlt i j := fun i hin j hj => by
      rw [← hi.one i hin j hj, hi.fac i hin j hj]
      subst e
      exact gsum_congr fun k _ => by rw [drops_el (by rw [hi.shp.1]; exact hin)]
    exact ⟨hs, hl, inv_two hl⟩
theorem invM_none {m : List (List G)} {n : Nat} (h : Shp m n n) (e : invM m = none) : ∃ x : Nat → G, (∃ k, k < n ∧ x k ≠ 0) ∧ ∀ i, i < n → gsum n (fun j => el m i j * x j) = 0 := by
  unfold invM at e
  rw [h.1] at e
  cases hg : gjr n n (aug m n) with
  | some a => rw [hg] at e; cases e
  | none => exact gjr_none (Nat.le_refl n) (by rw [Nat.sub_self]; exact aug_inv h) hg
end Go.Proofs.Ytlcddlipcdimeaa
namespace Go.Proofs.Ytlcddlipcdimeaa
open Go.RowKit
theorem gpow_half (x : G) (k : Nat) : gpow x k = (if k % 2 = 1 then x else 1) * gpow (x * x) (k / 2) := by
  rw [gpow_sq]
  split
  · conv => lhs; rw [show k = 1 + 2 * (k / 2) from by omega, gpow_add, gpow_one]
  · rw [G.one_mul]; congr 1; omega
set_option maxHeartbeats 400000 in
theorem power_any (a : G) (n : Int) (h1 : 0 ≤ n) (h2 : n ≤ 9223372036854775807) (w : World) :
    Calls Try.prog 56 #[bv a, iv n] w fun e w' => e = .returned (bv (gpow a n.toNat)) ∧ w = w' := by
  go_enter Try.func56, Try.ntmps56
  go_wp2
  go_loop [0, 1, 5] (fun a1 e1 o1 => ∃ (x o : G) (k : Nat), k ≤ 9223372036854775807 ∧ o * gpow x k = gpow a n.toNat ∧ a1 = bv x ∧ e1 = iv k ∧ o1 = bv o) (fun _ e1 _ => (intOf e1).toNat)
  case atStart => exact ⟨a, 1, n.toNat, by omega, G.one_mul _, rfl, by go_num, rfl⟩
  case round =>
    obtain ⟨x, o, k, hk, hx, rfl, rfl, rfl⟩ := hrel
    have HX := Lib.hid hx
    clear hx
    by_cases h0 : k = 0
    · subst h0
      go_wp2
      go_ret
      have := HX.out
      rw [gpow_zero, G.mul_one] at this
      exact ⟨by rw [← this]; rfl, rfl⟩
    · have e2 := i64_low k (by omega)
      by_cases hp : k % 2 = 1
      · have e1 : (bits BinOp.and IntKind.i64 (k : Int) 1 == 1) = true := by rw [e2, hp]; rfl
        clear e2
        go_wp2_with (go_at_call 35; refine (mul_any _ _ _).mono ?_; rintro e w' ⟨rfl, rfl⟩)
        go_round
        case rel => exact ⟨x * x, o * x, k / 2, by omega, by rw [← HX.out, gpow_half x k, if_pos hp, G.mul_assoc], rfl, by go_num, rfl⟩
        case measure => simp [intOf]; omega
      · have e1 : (bits BinOp.and IntKind.i64 (k : Int) 1 == 1) = false := by rw [e2, show k % 2 = 0 from by omega]; rfl
        clear e2
        go_wp2_with (go_at_call 35; refine (mul_any _ _ _).mono ?_; rintro e w' ⟨rfl, rfl⟩)
        go_round
        case rel => exact ⟨x * x, o, k / 2, by omega, by rw [← HX.out, gpow_half x k, if_neg hp, G.one_mul], rfl, by go_num, rfl⟩
        case measure => simp [intOf]; omega
end Go.Proofs.Ytlcddlipcdimeaa
namespace Go.Proofs.Ytlcddlipcdimeaa
open Go.RowKit
theorem ret_pair {a b : Value} {a' b' : Value} (h : a = a') (h' : b = b') : Ending.returned (.tuple #[a, b]) = .returned (.tuple #[a', b']) := by rw [h, h']
def errDivide : Int := 3
set_option maxHeartbeats 400000 in
theorem inv_zero (w : World) :
    Calls Try.prog 49 #[bv 0] w fun e w' => e = .returned (.tuple #[bv 0, iv 3]) ∧ w = w' := by
  go_enter Try.func49, Try.ntmps49
  go_wp2
  go_ret2
  exact ⟨rfl, rfl⟩
theorem G.beq_zero {a : G} (h : a ≠ 0) : ((a.val : Int) == 0) = false := by
  have : a.val ≠ 0 := fun e => h (G.eq_of e)
  rw [beq_eq_false_iff_ne]; omega
set_option maxHeartbeats 400000 in
theorem inv_any (a : G) (h : a ≠ 0) (w : World) :
    Calls Try.prog 49 #[bv a] w fun e w' => e = .returned (.tuple #[bv (ginv a), iv 0]) ∧ w = w' := by
  have hb := G.beq_zero h
  go_enter Try.func49, Try.ntmps49
  go_wp2_with (go_at_call 56; refine (power_any _ _ (by omega) (by omega) _).mono ?_; rintro e w' ⟨rfl, rfl⟩)
  go_ret2
  exact ⟨rfl, rfl⟩
end Go.Proofs.Ytlcddlipcdimeaa
namespace Go.Proofs.Ytlcddlipcdimeaa
open Go.RowKit
attribute [local irreducible] Calls
set_option maxRecDepth 20000 in
set_option maxHeartbeats 1000000 in
theorem cloneb_n (v : Value) (l : List G) (w : World) (hv : Sl w 1 v l.length (bvs l)) (h1 : 1 ≤ l.length) (h2 : l.length ≤ 100000) : Calls Try.prog 51 #[v] w fun e w' => ∃ v' M, e = .returned v' ∧ H w M w' ∧
    ∃ A c, v' = .slice A l.length c ∧ M = [vec A l.length c 5 1 (bvs l)] := by
  obtain ⟨A, c, rfl, hc, hm, hs⟩ := hv.open_
  have hA := sl_some hs (by omega)
  have hone := bvs_one l
  refine calls_wc (args := [.slice A l.length c]) [2] [] Try.func51 rfl Try.ntmps51 rfl rfl rfl rfl (H.refl w) ?_
  (refine WC.seq ?_; intro K hK)
  refine WC.region rfl ?_
  refine WL.want rfl (WL1.give rfl (g_assign rfl (.mk (v := .slice _ _ _) rfl rfl)) ?_)
  refine WL.nil ?_
  (refine hK _ _ ?_; clear hK)
  (refine WC.seq ?_; intro K hK)
  (refine WC.seq ?_; intro K hK)
  refine WC.region rfl ?_
  refine WL.want rfl (WL1.give rfl (g_move rfl (.mk (v := .slice _ _ _) rfl rfl)) ?_)
  refine WL.want rfl (WL1.give rfl (g_eqSNS rfl rfl (.mk rfl rfl) (.mk rfl rfl) ((fun _ _ => sl_some hs (by omega)))) ?_)
  refine WL.nil ?_
  (refine hK _ _ ?_; clear hK)
  refine WC.cond_false (.mk rfl rfl) ?_
  refine WC.skip ?_
  (refine hK _ _ ?_; clear hK)
  (refine WC.seq ?_; intro K hK)
  refine WC.region rfl ?_
  refine WL.want rfl (WL1.lit (cs := []) elB rfl rfl rfl .nil rfl (by first | (simp [Value.cells]; done) | fail) rfl rfl (fun b5 => ?_))
  refine WL.want rfl (WL1.give rfl (g_move rfl (.mk (v := .slice _ _ _) rfl rfl)) ?_)
  refine WL.want rfl (WL1.append elB rfl rfl (.mk rfl rfl) (.mk rfl rfl) (.head) (fun w hw => Sl.below hs hw.1) hone (by unfold maxLen; omega) (by omega) (fun A7 c7 => ?_))
  refine WL.want rfl (WL1.give rfl (g_assign rfl (.mk (v := .slice _ _ _) rfl rfl)) ?_)
  refine WL.nil ?_
  (refine hK _ _ ?_; clear hK)
  refine WC.ret ?_
  exact fun w' hw' => ⟨_, _, rfl, hw', A7, c7, by show Value.slice A7 (0 + l.length) c7 = _; rw [Nat.zero_add], by rw [Nat.zero_add, List.nil_append]⟩
/-- The closure that asks whether a row has something in column c. -/
abbrev colF (b : Nat) : Value := .func (.func 48) #[] #[cellPtr (some ⟨b, 0, none⟩) 0]
theorem decG {x : G} : decide (((x.val : Nat) : Int) ≠ 0) = nz x := by
  unfold nz
  refine decide_eq_decide.2 ⟨fun h e => h (by rw [e]; rfl), fun h e => h (G.eq_of (by show x.val = 0; omega))⟩
set_option maxRecDepth 20000 in
set_option maxHeartbeats 1000000 in
theorem colF_e (v : Value) (l : List G) (b c : Nat) (w : World) (hv : Sl w 1 v l.length (bvs l)) (hc : w.cell? ⟨b, 0, none⟩ = some (iv c)) (h : c < l.length) : Calls Try.prog 48 #[v, cellPtr (some ⟨b, 0, none⟩) 0] w fun e w' => e = .returned (.bool (nz (nth l c))) ∧ Below w.heap.size w w' := by
  obtain ⟨A, cc, rfl, hcc, hm, hs⟩ := hv.open_
  have hd := decG (x := nth l c)
  refine calls_wc (args := [.slice A l.length cc, cellPtr (some ⟨b, 0, none⟩) 0]) [3] [] Try.func48 rfl Try.ntmps48 rfl rfl rfl rfl (H.refl w) ?_
  (refine WC.seq ?_; intro K hK)
  refine WC.region rfl ?_
  refine WL.want rfl (WL1.give rfl (g_assign rfl (.mk (v := .bool _) rfl rfl)) ?_)
  refine WL.nil ?_
  (refine hK _ _ ?_; clear hK)
  (refine WC.seq ?_; intro K hK)
  refine WC.region rfl ?_
  refine WL.want rfl (WL1.give rfl (g_move rfl (.mk (v := .slice _ _ _) rfl rfl)) ?_)
  refine WL.want rfl (WL1.give rfl (g_load rfl (.mk rfl rfl) rfl (rd_wb hc)) ?_)
  refine WL.want rfl (WL1.give rfl (g_indexAddr (sz := 1) rfl (.mk rfl rfl) (.mk rfl rfl) rfl rfl rfl (by omega) (fun _ _ => sl_some hs (by omega))) ?_)
  refine WL.want rfl (WL1.give rfl (g_load rfl (.mk rfl rfl) rfl (rd_sl hs (get1 (by omega)))) ?_)
  refine WL.want rfl (WL1.give rfl (g_ne rfl (.mk rfl rfl) (.mk rfl rfl) hd) ?_)
  refine WL.want rfl (WL1.give rfl (g_assign rfl (.mk (v := .bool _) rfl rfl)) ?_)
  refine WL.nil ?_
  (refine hK _ _ ?_; clear hK)
  refine WC.ret ?_
  exact fun w' hw' => ⟨rfl, hw'.1⟩
set_option maxRecDepth 20000 in
set_option maxHeartbeats 1000000 in
theorem index_rows (v : Value) (rs : List Row) (b c : Nat) (w : World) (hv : MatAt w v rs) (hc : w.cell? ⟨b, 0, none⟩ = some (iv c)) (hl : ∀ k, k < rs.length → c < (nth rs k).l.length) :
    Calls Try.prog 47 #[v, colF b] w fun e w' => e = .returned (iv (fz (fnd (fun k => nz (nth (nth rs k).l c)) rs.length))) ∧ Below w.heap.size w w' := by
  obtain ⟨A, cc, rfl, hcc, hm, hs⟩ := hv.1.open_
  unfold maxLen at hm
  refine calls_wc (args := [.slice A rs.length cc, colF b]) [4] [] Try.func47 rfl Try.ntmps47 rfl rfl rfl rfl (H.refl w) ?_
  (refine WC.seq ?_; intro K hK)
  refine WC.region rfl ?_
  refine WL.want rfl (WL1.give rfl (g_assign rfl (.mk (v := .int _ _) rfl rfl)) ?_)
  refine WL.nil ?_
  (refine hK _ _ ?_; clear hK)
  (refine WC.seq ?_; intro K hK)
  (refine WC.seq ?_; intro K hK)
  refine WC.region rfl ?_
  refine WL.want rfl (WL1.give rfl (g_move rfl (.mk (v := .slice _ _ _) rfl rfl)) ?_)
  refine WL.want rfl (WL1.give rfl (g_len rfl (.mk rfl rfl) rfl) ?_)
  refine WL.want rfl (WL1.give rfl (g_move rfl (.mk (v := .int _ _) rfl rfl)) ?_)
  refine WL.nil ?_
  (refine hK _ _ ?_; clear hK)
  refine WC.block ?_
  refine WC.loop (524080) (fun k : Nat => [(8, iv k)]) (fun _ => []) (fun k => k ≤ rs.length ∧ ∀ j, j < k → nz (nth (nth rs j).l c) = false) (fun k => rs.length - k) 0 ⟨rfl, trivial⟩ (List.nil_sublist _) ⟨by omega, fun j hj => absurd hj (by omega)⟩ ?_
  rintro k U ⟨hk, hq⟩
  by_cases hlt : k < rs.length
  · have hcl := fun w' hb => colF_e (nth rs k).v (nth rs k).l b c w' ((hv.row hlt).below (w' := w') hb) (kept_cell hb hc) (hl k hlt)
    cases hz : nz (nth (nth rs k).l c) with
    | false =>
      rw [hz] at hcl
      (refine WC.seq ?_; intro K hK)
      refine WC.region rfl ?_
      refine WL.want rfl (WL1.give rfl (g_lt rfl (.mk rfl rfl) (.mk rfl rfl) (decide_eq_true (by omega))) ?_)
      refine WL.nil ?_
      (refine hK _ _ ?_; clear hK)
      (refine WC.seq ?_; intro K hK)
      refine WC.cond_true (.mk rfl rfl) ?_
      refine WC.skip ?_
      (refine hK _ _ ?_; clear hK)
      (refine WC.seq ?_; intro K hK)
      refine WC.block ?_
      (refine WC.seq ?_; intro K hK)
      refine WC.region rfl ?_
      refine WL.want rfl (WL1.give rfl (g_move rfl (.mk (v := .int _ _) rfl rfl)) ?_)
      refine WL.want rfl (WL1.give rfl (g_assign rfl (.mk (v := .int _ _) rfl rfl)) ?_)
      refine WL.nil ?_
      (refine hK _ _ ?_; clear hK)
      (refine WC.seq ?_; intro K hK)
      refine WC.region rfl ?_
      refine WL.want rfl (WL1.give rfl (g_move rfl (.mk (v := .func _ _ _) rfl rfl)) ?_)
      refine WL.want rfl (WL1.give rfl (g_move rfl (.mk (v := .slice _ _ _) rfl rfl)) ?_)
      refine WL.want rfl (WL1.give rfl (g_move rfl (.mk (v := .int _ _) rfl rfl)) ?_)
      refine WL.want rfl (WL1.give rfl (g_indexAddr (sz := 1) rfl (.mk rfl rfl) (.mk rfl rfl) rfl rfl rfl (by omega) (fun _ _ => sl_some hs (by omega))) ?_)
      refine WL.want rfl (WL1.give rfl (g_load rfl (.mk rfl rfl) rfl (rd_sl hs (get1 (by omega)))) ?_)
      refine WL.want rfl (WL1.callVP rfl rfl (.mk rfl rfl) (by first | assumption | rfl) (.cons (.mk (v := .slice _ _ _) rfl rfl) .nil) (fun w hw => hcl w hw.1) ?_)
      refine WL.nil ?_
      (refine hK _ _ ?_; clear hK)
      refine WC.cond_false (.mk rfl rfl) ?_
      refine WC.skip ?_
      (refine hK _ _ ?_; clear hK)
      refine WC.region rfl ?_
      refine WL.want rfl (WL1.give rfl (g_add rfl (.mk rfl rfl) (.mk rfl rfl) (IntWalk.i64_in _ (by omega))) ?_)
      refine WL.want rfl (WL1.give rfl (g_move rfl (.mk (v := .int _ _) rfl rfl)) ?_)
      refine WL.nil ?_
      refine ⟨k + 1, (by repeat (first | with_reducible exact Out.refl _ _ | refine Out.set rfl ?_ | refine Out.put rfl ?_ | refine Out.sets rfl ?_ | refine Out.hav rfl ?_ | exact Out.refl _ _)), ⟨rfl, trivial⟩, .refl _, ⟨by omega, fun j hj => ?_⟩, by omega⟩
      by_cases e : j = k
      · rw [e]; exact hz
      · exact hq j (by omega)
    | true =>
      rw [hz] at hcl
      (refine WC.seq ?_; intro K hK)
      refine WC.region rfl ?_
      refine WL.want rfl (WL1.give rfl (g_lt rfl (.mk rfl rfl) (.mk rfl rfl) (decide_eq_true (by omega))) ?_)
      refine WL.nil ?_
      (refine hK _ _ ?_; clear hK)
      (refine WC.seq ?_; intro K hK)
      refine WC.cond_true (.mk rfl rfl) ?_
      refine WC.skip ?_
      (refine hK _ _ ?_; clear hK)
      (refine WC.seq ?_; intro K hK)
      refine WC.block ?_
      (refine WC.seq ?_; intro K hK)
      refine WC.region rfl ?_
      refine WL.want rfl (WL1.give rfl (g_move rfl (.mk (v := .int _ _) rfl rfl)) ?_)
      refine WL.want rfl (WL1.give rfl (g_assign rfl (.mk (v := .int _ _) rfl rfl)) ?_)
      refine WL.nil ?_
      (refine hK _ _ ?_; clear hK)
      (refine WC.seq ?_; intro K hK)
      refine WC.region rfl ?_
      refine WL.want rfl (WL1.give rfl (g_move rfl (.mk (v := .func _ _ _) rfl rfl)) ?_)
      refine WL.want rfl (WL1.give rfl (g_move rfl (.mk (v := .slice _ _ _) rfl rfl)) ?_)
      refine WL.want rfl (WL1.give rfl (g_move rfl (.mk (v := .int _ _) rfl rfl)) ?_)
      refine WL.want rfl (WL1.give rfl (g_indexAddr (sz := 1) rfl (.mk rfl rfl) (.mk rfl rfl) rfl rfl rfl (by omega) (fun _ _ => sl_some hs (by omega))) ?_)
      refine WL.want rfl (WL1.give rfl (g_load rfl (.mk rfl rfl) rfl (rd_sl hs (get1 (by omega)))) ?_)
      refine WL.want rfl (WL1.callVP rfl rfl (.mk rfl rfl) (by first | assumption | rfl) (.cons (.mk (v := .slice _ _ _) rfl rfl) .nil) (fun w hw => hcl w hw.1) ?_)
      refine WL.nil ?_
      (refine hK _ _ ?_; clear hK)
      refine WC.cond_true (.mk rfl rfl) ?_
      (refine WC.seq ?_; intro K hK)
      refine WC.region rfl ?_
      refine WL.want rfl (WL1.give rfl (g_move rfl (.mk (v := .int _ _) rfl rfl)) ?_)
      refine WL.want rfl (WL1.give rfl (g_assign rfl (.mk (v := .int _ _) rfl rfl)) ?_)
      refine WL.nil ?_
      (refine hK _ _ ?_; clear hK)
      refine WC.ret ?_
      exact fun w' hw' => ⟨by rw [fnd_eq hlt hz hq]; rfl, hw'.1⟩
  · obtain rfl : k = rs.length := by omega
    (refine WC.seq ?_; intro K hK)
    refine WC.region rfl ?_
    refine WL.want rfl (WL1.give rfl (g_lt rfl (.mk rfl rfl) (.mk rfl rfl) (decide_eq_false (by omega))) ?_)
    refine WL.nil ?_
    (refine hK _ _ ?_; clear hK)
    (refine WC.seq ?_; intro K hK)
    refine WC.cond_false (.mk rfl rfl) ?_
    refine WC.exit ?_
    (clear hK; refine hK _ _ ?_; clear hK)
    (refine WC.seq ?_; intro K hK)
    refine WC.region rfl ?_
    refine WL.want rfl (WL1.give rfl (g_assign rfl (.mk (v := .int _ _) rfl rfl)) ?_)
    refine WL.nil ?_
    (refine hK _ _ ?_; clear hK)
    refine WC.ret ?_
    exact fun w' hw' => ⟨by rw [fnd_all hq]; rfl, hw'.1⟩
end Go.Proofs.Ytlcddlipcdimeaa
