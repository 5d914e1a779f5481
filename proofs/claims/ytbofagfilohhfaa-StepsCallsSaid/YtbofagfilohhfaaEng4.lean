/- The program logic: calls, entries, append, make, slices of slices, aggregates. Over any program. No condition. -/
import Derived.Test.YtbofagfilohhfaaEng3
import Derived.Laws.CopyRow
namespace Go.Proofs.Ytbofagfilohhfaa
set_option maxRecDepth 20000
open Go.RowKit

section
variable {P : Program} {n : Fr} {w0 : World} {ops : Array Oper} {lops : List Oper} {K : Post} {o : Oper} {rest : List Oper} {E : Env} {L : List Asrt} {C : World → Prop}
/-! ### Calls -/
def callable (P : Program) (f : FuncId) : Bool := match P.funcs[f]? with | some fn => fn.name != "runtime.NumGoroutine" && fn.body.isSome | none => false
theorem run_callFunc {f : FuncId} (h : callable P f = true) (args : Array Value) (w : World) : (callFunc f args).run P w = .ok (.enter f args) w := by
  unfold callable at h
  cases hf : P.funcs[f]? with
  | none => rw [hf] at h; cases h
  | some fn =>
    rw [hf] at h
    simp only [Bool.and_eq_true, bne_iff_ne] at h
    cases hb : fn.body with
    | none => rw [hb] at h; cases h.2
    | some c =>
      unfold callFunc
      simp [program, Sem.run, hf, h.1, hb]
theorem WL1.call {f : FuncId} {args : List Operand} {ts : Array TypeId} {d : Option Tmp} {vals : List Value} (ho : o.op = .call { callee := .value (.func f), args := args.toArray, argTypes := ts }) (hd : o.dst = d) (hc : callable P f = true) (hv : Evs n E args vals)
    (h : ∀ w, H w0 L w → Calls P f vals.toArray w fun e w' => ∃ v L', e = .returned v ∧ H w0 L' w' ∧ WL P n w0 ops K rest (E.put d v) L') : WL1 P n w0 ops K o rest E L := fun w hw Q hQ K' hK => by
  unfold Oper.wp execOp
  have hm : args.toArray.map (actOf n E).eval = vals.toArray := by rw [List.map_toArray, hv.map]
  simp only [ho, resolve, Act.eval, Deferred.ofValue, Sem.run_bind, Sem.run_pure, Result.andThen_ok]
  rw [hm]
  simp only [Array.append_empty, Array.empty_append, invoke, run_callFunc hc, Oper.upon_enter]
  refine (h w hw).mono ?_
  rintro e w' ⟨v, L', rfl, hH, hW⟩
  show K' _ _
  rw [actOf_put, hd]
  exact hK _ _ (hW w' hH Q hQ)
/-- A callee that hands back a plain value and makes blocks at most. -/
theorem WL1.callP {f : FuncId} {args : List Operand} {ts : Array TypeId} {d : Nat} {vals : List Value} {v : Value} (ho : o.op = .call { callee := .value (.func f), args := args.toArray, argTypes := ts }) (hd : o.dst = some d) (hc : callable P f = true) (hv : Evs n E args vals)
    (h : ∀ w, H w0 L w → Calls P f vals.toArray w fun e w' => e = .returned v ∧ Below w.heap.size w w') (k : WL P n w0 ops K rest (E.set d v) L) : WL1 P n w0 ops K o rest E L :=
  WL1.call ho hd hc hv fun w hw => (h w hw).mono fun _ _ ⟨he, hb⟩ => ⟨v, L, he, hw.below hb, k⟩
theorem Calls.belowS {f : FuncId} {args : Array Value} {w : World} {v : Value} (h : Calls P f args w fun e w' => e = .returned v ∧ w' = w) : Calls P f args w fun e w' => e = .returned v ∧ Below w.heap.size w w' :=
  h.mono fun _ _ ⟨he, hw⟩ => ⟨he, by rw [hw]; exact Below.refl _ _⟩
theorem Calls.belowS' {f : FuncId} {args : Array Value} {w : World} {v : Value} (h : Calls P f args w fun e w' => e = .returned v ∧ w = w') : Calls P f args w fun e w' => e = .returned v ∧ Below w.heap.size w w' :=
  h.mono fun _ _ ⟨he, hw⟩ => ⟨he, by rw [← hw]; exact Below.refl _ _⟩
/-! ### Entries and ends -/
def argE (args : List Value) : Env := fun t => args.getD t undef
theorem entry_frame {m : Nat} (args : List Value) (h : args.length ≤ m) : ({ tmps := args.toArray ++ Array.replicate (m - args.toArray.size) undef, defers := [] } : Act) = actOf ⟨m, none, []⟩ (argE args) := by
  unfold actOf
  congr 1
  apply Array.ext'
  apply List.ext_getElem?
  intro t
  simp only [Array.toList_append, Array.toList_replicate, List.getElem?_append, List.size_toArray, Array.toList_map, Array.toList_range, List.getElem?_map, List.getElem?_replicate]
  by_cases h1 : t < args.length
  · rw [if_pos h1, List.getElem?_range (by omega)]
    simp [argE, List.getD_eq_getElem?_getD, h1]
  · rw [if_neg h1]
    by_cases h2 : t < m
    · rw [if_pos (by omega), List.getElem?_range h2]
      simp [argE, List.getD_eq_getElem?_getD, List.getElem?_eq_none (by omega : args.length ≤ t)]
    · rw [if_neg (by omega), List.getElem?_eq_none (by simp; omega)]
      rfl
def resV (E : Env) : List Nat → Value
  | [t] => E t
  | ts => .tuple (ts.map E).toArray
def retQ (w0 : World) (R : Ending → World → Prop) (ts : List Nat) : Exit → Post
  | .ret, E, L => ∀ w, H w0 L w → R (.returned (resV E ts)) w
  | .normal, E, L => ∀ w, H w0 L w → R (.returned (resV E ts)) w
  | _, _, _ => False
theorem run_results {fn : Func} {ts : List Nat} (h : fn.results = (ts.map ResultVar.tmp).toArray) (hn : (ts.all fun t => Nat.blt t n.n) = true) (h3 : Nat.ble ts.length 3 = true) (w : World) : (results fn (actOf n E).tmps).run P w = .ok (resV E ts) w := by
  have key : ∀ t ∈ ts, (actOf n E).tmps[t]?.getD undef = E t := fun t ht => by
    have h1 := List.all_eq_true.1 hn t ht
    have h2 : t < n.n := Nat.lt_of_not_le (fun h4 => by rw [Nat.blt] at h1; have := Nat.le_of_ble_eq_true h1; omega)
    rw [actOf_get, if_pos h2]; rfl
  unfold results
  rw [h]
  match ts, h3, key with
  | [], _, _ => simp [resV]
  | [t], _, key => simp [resV, key t (by simp)]
  | [t, u], _, key => simp [resV, key t (by simp), key u (by simp)]
  | [t, u, x], _, key => simp [resV, key t (by simp), key u (by simp), key x (by simp)]
  | t :: u :: x :: y :: l, h3, _ => exact absurd (Nat.le_of_ble_eq_true h3) (by simp)
theorem calls_wc {m : Nat} {f : FuncId} {fn : Func} {c : Code} {args : List Value} {w : World} {R : Ending → World → Prop} (ts : List Nat) (L0 : List Asrt) (hf : P.funcs[f]? = some fn) (hb : fn.body = some c) (hn : fn.ntmps = m) (hl : Nat.ble args.length m = true)
    (hres : fn.results = (ts.map ResultVar.tmp).toArray) (htn : (ts.all fun t => Nat.blt t m) = true) (h3 : Nat.ble ts.length 3 = true) (hw : H w0 L0 w) (h : WC P ⟨m, none, []⟩ w0 c (retQ w0 R ts) (argE args) L0) : Calls P f args.toArray w R := by
  refine calls_of_wp hf hb ?_
  rw [hn, entry_frame args (Nat.le_of_ble_eq_true hl)]
  refine Code.wp_mono ?_ (wpIn_wide.1 (h w hw))
  intro e a w' hq
  cases e with
  | normal => obtain ⟨E', L', rfl, hH, hK⟩ := hq; exact ⟨rfl, _, run_results (n := ⟨m, none, []⟩) hres htn h3 w', hK w' hH⟩
  | ret => obtain ⟨E', L', rfl, hH, hK⟩ := hq; exact ⟨rfl, _, run_results (n := ⟨m, none, []⟩) hres htn h3 w', hK w' hH⟩
  | exit i => obtain ⟨E', L', rfl, hH, hK⟩ := hq; exact hK.elim
  | _ => exact hq.elim
end
end Go.Proofs.Ytbofagfilohhfaa
