/- The program logic: nil, closures, atomic numbers, results that lie in memory. Over any program. No condition. -/
import Derived.Test.YtbofagfilohhfaaEng6
import Derived.Laws.LoneSync
namespace Go.Proofs.Ytbofagfilohhfaa
set_option maxRecDepth 20000
open Go.RowKit

section
variable {P : Program} {n : Fr} {w0 : World} {ops : Array Oper} {lops : List Oper} {K : Post} {o : Oper} {rest : List Oper} {E : Env} {L : List Asrt} {C : World → Prop} {Q : Exit → Post}
/-! ### A pointer against nil -/
theorem run_eqIn_nil {d : Nat} {t e : TypeId} {w : World} (ht : P.underlying t = some (.pointer e)) (a : Option Addr) : (Op.equalIn (d + 1) t (.pointer a) (.pointer none)).run P w = .ok a.isNone w := by
  cases a <;> simp [Op.equalIn, run_underlying ht]
theorem g_eqPN {t t' e : TypeId} {x y : Operand} {A : Option Addr} {k : Nat} (ho : o.op = .binOp .eql t x y t') (hx : Ev n E x (cellPtr A k)) (hy : Ev n E y (.pointer none)) (ht : P.underlying t = some (.pointer e)) (hA : ∀ w, C w → A.isSome = true) : Gives P n C o E (.bool false) := fun w hw => by
  obtain ⟨a, rfl⟩ := Option.isSome_iff_exists.1 (hA w hw)
  unfold Ev at hx hy; unfold execOp
  have : (Op.equal t (.pointer (some (a.add k))) (.pointer none)).run P w = .ok false w := run_eqIn_nil (d := 9999) ht _
  simp [ho, hx, hy, cellPtr_some, eqGuard, binOp, this]
theorem g_nePN {t t' e : TypeId} {x y : Operand} {A : Option Addr} {k : Nat} (ho : o.op = .binOp .neq t x y t') (hx : Ev n E x (cellPtr A k)) (hy : Ev n E y (.pointer none)) (ht : P.underlying t = some (.pointer e)) (hA : ∀ w, C w → A.isSome = true) : Gives P n C o E (.bool true) := fun w hw => by
  obtain ⟨a, rfl⟩ := Option.isSome_iff_exists.1 (hA w hw)
  unfold Ev at hx hy; unfold execOp
  have : (Op.equal t (.pointer (some (a.add k))) (.pointer none)).run P w = .ok false w := run_eqIn_nil (d := 9999) ht _
  simp [ho, hx, hy, cellPtr_some, eqGuard, binOp, this]
theorem g_eqNN {t t' e : TypeId} {x y : Operand} (ho : o.op = .binOp .eql t x y t') (hx : Ev n E x (.pointer none)) (hy : Ev n E y (.pointer none)) (ht : P.underlying t = some (.pointer e)) : Gives P n C o E (.bool true) := fun w hw => by
  unfold Ev at hx hy; unfold execOp
  have : (Op.equal t (.pointer none) (.pointer none)).run P w = .ok true w := run_eqIn_nil (d := 9999) ht _
  simp [ho, hx, hy, eqGuard, binOp, this]
theorem g_neNN {t t' e : TypeId} {x y : Operand} (ho : o.op = .binOp .neq t x y t') (hx : Ev n E x (.pointer none)) (hy : Ev n E y (.pointer none)) (ht : P.underlying t = some (.pointer e)) : Gives P n C o E (.bool false) := fun w hw => by
  unfold Ev at hx hy; unfold execOp
  have : (Op.equal t (.pointer none) (.pointer none)).run P w = .ok true w := run_eqIn_nil (d := 9999) ht _
  simp [ho, hx, hy, eqGuard, binOp, this]
/-! ### Closures -/
theorem g_makeFunc {f : FuncId} {cap : List Operand} {vs : List Value} (ho : o.op = .makeFunc (.func f) #[] cap.toArray) (hv : Evs n E cap vs) : Gives P n C o E (.func (.func f) #[] vs.toArray) := fun w _ => by
  unfold execOp
  have hm : cap.toArray.map (actOf n E).eval = vs.toArray := by rw [List.map_toArray, hv.map]
  simp [ho, Instr.makeFunc, hm]
theorem run_callV {x : Operand} {args : List Operand} {ts : Array TypeId} {f : FuncId} {cap vals : List Value} (ho : o.op = .call { callee := .value x, args := args.toArray, argTypes := ts }) (hc : callable P f = true) (hx : Ev n E x (.func (.func f) #[] cap.toArray)) (hv : Evs n E args vals) (w : World) :
    (execOp (actOf n E).eval o).run P w = .ok (.enter f (vals ++ cap).toArray) w := by
  unfold Ev at hx
  unfold execOp
  have hm : args.toArray.map (actOf n E).eval = vals.toArray := by rw [List.map_toArray, hv.map]
  simp only [ho, resolve, hx, Deferred.ofValue, Sem.run_bind, Sem.run_pure, Result.andThen_ok]
  rw [hm]
  simp only [Array.empty_append, invoke, run_callFunc hc, List.append_toArray, List.nil_append]
theorem WL1.callV {x : Operand} {args : List Operand} {ts : Array TypeId} {d : Option Tmp} {f : FuncId} {cap vals : List Value} (ho : o.op = .call { callee := .value x, args := args.toArray, argTypes := ts }) (hd : o.dst = d) (hx : Ev n E x (.func (.func f) #[] cap.toArray)) (hc : callable P f = true) (hv : Evs n E args vals)
    (h : ∀ w, H w0 L w → Calls P f (vals ++ cap).toArray w fun e w' => ∃ v L', e = .returned v ∧ H w0 L' w' ∧ WL P n w0 ops K rest (E.put d v) L') : WL1 P n w0 ops K o rest E L := fun w hw Q hQ K' hK => by
  unfold Oper.wp
  rw [run_callV ho hc hx hv]
  simp only [Oper.upon_enter]
  refine (h w hw).mono ?_
  rintro e w' ⟨v, L', rfl, hH, hW⟩
  show K' _ _
  rw [actOf_put, hd]
  exact hK _ _ (hW w' hH Q hQ)
theorem WL1.callVP {x : Operand} {args : List Operand} {ts : Array TypeId} {d : Nat} {f : FuncId} {cap vals : List Value} {v : Value} (ho : o.op = .call { callee := .value x, args := args.toArray, argTypes := ts }) (hd : o.dst = some d) (hx : Ev n E x (.func (.func f) #[] cap.toArray)) (hc : callable P f = true) (hv : Evs n E args vals)
    (h : ∀ w, H w0 L w → Calls P f (vals ++ cap).toArray w fun e w' => e = .returned v ∧ Below w.heap.size w w') (k : WL P n w0 ops K rest (E.set d v) L) : WL1 P n w0 ops K o rest E L :=
  WL1.callV ho hd hx hc hv fun w hw => (h w hw).mono fun _ _ ⟨he, hb⟩ => ⟨v, L, he, hw.below hb, k⟩
/-! ### Calls that write what is handed to them -/
theorem WL1.callF {f : FuncId} {args : List Operand} {ts : Array TypeId} {d : Option Tmp} {vals : List Value} {Φ : Value → List Asrt → Prop} (ho : o.op = .call { callee := .value (.func f), args := args.toArray, argTypes := ts }) (hd : o.dst = d) (hc : callable P f = true) (hv : Evs n E args vals)
    (h : ∀ w, H w0 L w → Calls P f vals.toArray w fun e w' => ∃ v L', e = .returned v ∧ H w0 L' w' ∧ Φ v L') (k : ∀ v L', Φ v L' → WL P n w0 ops K rest (E.put d v) L') : WL1 P n w0 ops K o rest E L :=
  WL1.call ho hd hc hv fun w hw => (h w hw).mono fun _ _ ⟨v, L', he, hH, hΦ⟩ => ⟨v, L', he, hH, k v L' hΦ⟩
theorem WL1.callVF {x : Operand} {args : List Operand} {ts : Array TypeId} {d : Option Tmp} {f : FuncId} {cap vals : List Value} {Φ : Value → List Asrt → Prop} (ho : o.op = .call { callee := .value x, args := args.toArray, argTypes := ts }) (hd : o.dst = d) (hx : Ev n E x (.func (.func f) #[] cap.toArray)) (hc : callable P f = true) (hv : Evs n E args vals)
    (h : ∀ w, H w0 L w → Calls P f (vals ++ cap).toArray w fun e w' => ∃ v L', e = .returned v ∧ H w0 L' w' ∧ Φ v L') (k : ∀ v L', Φ v L' → WL P n w0 ops K rest (E.put d v) L') : WL1 P n w0 ops K o rest E L :=
  WL1.callV ho hd hx hc hv fun w hw => (h w hw).mono fun _ _ ⟨v, L', he, hH, hΦ⟩ => ⟨v, L', he, hH, k v L' hΦ⟩
/-! ### Atomic numbers -/
def isExt (P : Program) (f : FuncId) : Bool := match P.funcs[f]? with | some fn => (fn.name == "runtime.NumGoroutine") == false && fn.body.isNone && (Extern.findNext fn).isNone | none => false
theorem isExt_spec {f : FuncId} (h : isExt P f = true) : ∃ fn, P.funcs[f]? = some fn ∧ (fn.name == "runtime.NumGoroutine") = false ∧ fn.body.isNone = true ∧ Extern.findNext fn = none := by
  unfold isExt at h
  cases hf : P.funcs[f]? with
  | none => rw [hf] at h; cases h
  | some fn =>
    rw [hf] at h
    simp only [Bool.and_eq_true, beq_iff_eq, Option.isNone_iff_eq_none] at h
    exact ⟨fn, rfl, h.1.1, by rw [h.1.2]; rfl, h.2⟩
theorem exec_ext {f : FuncId} {args : List Operand} {ts : Array TypeId} {vals : List Value} (ho : o.op = .call { callee := .value (.func f), args := args.toArray, argTypes := ts }) (hv : Evs n E args vals) : execOp (actOf n E).eval o = callFunc f vals.toArray := by
  unfold execOp
  have hm : args.toArray.map (actOf n E).eval = vals.toArray := by rw [List.map_toArray, hv.map]
  have hb : ∀ (x : Deferred) (k : Deferred → Sem Next), (pure x >>= k) = k x := fun _ _ => rfl
  simp only [ho, resolve, Act.eval, Deferred.ofValue, hb]
  rw [hm]
  simp [invoke]
theorem g_aload {f : FuncId} {x : Operand} {ts : Array TypeId} {A : Option Addr} {k : Nat} {kk : IntKind} {v : Int} (hE : isExt P f = true) (he : (P.funcs[f]?).map Extern.find = some (some (Extern.Atomic.loadT (.int kk))))
    (ho : o.op = .call { callee := .value (.func f), args := #[x], argTypes := ts }) (hx : Ev n E x (cellPtr A k)) (hr : RdC C A k (.int kk v)) : Gives P n C o E (.int kk v) := fun w hw => by
  obtain ⟨a, rfl, hc⟩ := hr w hw
  obtain ⟨fn, h1, h2, h3, h4⟩ := isExt_spec hE
  rw [h1] at he
  simp at he
  rw [cellPtr_some] at hx
  rw [exec_ext (args := [x]) ho (.cons hx .nil)]
  exact run_call_load h1 h2 h3 h4 kk he hc
theorem WL1.astore {f : FuncId} {x y : Operand} {ts : Array TypeId} {b off k : Nat} {kk : IntKind} {v : Int} {e : TypeId} {cs : List Value} {d : Option Tmp} {L' : List Asrt} (hE : isExt P f = true) (he : (P.funcs[f]?).map Extern.find = some (some Extern.Atomic.storeT))
    (ho : o.op = .call { callee := .value (.func f), args := #[x, y], argTypes := ts }) (hd : o.dst = d) (hx : Ev n E x (cellPtr (some ⟨b, off, none⟩) k)) (hy : Ev n E y (.int kk v)) (hk : off + k < cs.length)
    (hs : Swap (pt b e cs) (pt b e (cs.set (off + k) (.int kk v))) L L') (h : WL P n w0 ops K rest (E.put d (.tuple #[])) L') : WL1 P n w0 ops K o rest E L := fun w hw Q hQ K' hK => by
  have hb : w.heap[b]? = some (.cells cs.toArray e (0, 0)) := (hw.2.in_ _ hs.mem).1
  obtain ⟨fn, h1, h2, h3, h4⟩ := isExt_spec hE
  rw [h1] at he
  simp at he
  rw [cellPtr_some, add_off] at hx
  have hc : w.cell? ⟨b, off + k, none⟩ = some cs[off + k] := by rw [cell_of_block hb]; exact List.getElem?_eq_getElem hk
  have hf : w.frozen? ⟨b, off + k, none⟩ = false := by unfold World.frozen?; simp [hb]
  unfold Oper.wp
  rw [exec_ext (args := [x, y]) ho (.cons hx (.cons hy .nil)), run_call_store h1 h2 h3 h4 he hc hf]
  show K' _ _
  rw [actOf_put, hd]
  refine hK _ _ (h _ ?_ Q hQ)
  exact hw.swapped hs (by simp [World.setCell]) rfl rfl rfl (fun _ h => h) (fun i hi => Below.heap_setCell _ _ _ _ hi) (set_block hb)
theorem WL1.acas {f : FuncId} {x y z : Operand} {ts : Array TypeId} {b off k : Nat} {kk : IntKind} {v v' : Int} {e : TypeId} {cs : List Value} {d : Nat} {L' : List Asrt} (hE : isExt P f = true) (he : (P.funcs[f]?).map Extern.find = some (some (Extern.Atomic.casT (.int kk))))
    (ho : o.op = .call { callee := .value (.func f), args := #[x, y, z], argTypes := ts }) (hd : o.dst = some d) (hx : Ev n E x (cellPtr (some ⟨b, off, none⟩) k)) (hy : Ev n E y (.int kk v)) (hz : Ev n E z (.int kk v')) (hk : cs[off + k]? = some (.int kk v))
    (hs : Swap (pt b e cs) (pt b e (cs.set (off + k) (.int kk v'))) L L') (h : WL P n w0 ops K rest (E.set d (.bool true)) L') : WL1 P n w0 ops K o rest E L := fun w hw Q hQ K' hK => by
  have hb : w.heap[b]? = some (.cells cs.toArray e (0, 0)) := (hw.2.in_ _ hs.mem).1
  obtain ⟨fn, h1, h2, h3, h4⟩ := isExt_spec hE
  rw [h1] at he
  simp at he
  rw [cellPtr_some, add_off] at hx
  have hc : w.cell? ⟨b, off + k, none⟩ = some (.int kk v) := by rw [cell_of_block hb]; exact hk
  have hf : w.frozen? ⟨b, off + k, none⟩ = false := by unfold World.frozen?; simp [hb]
  unfold Oper.wp
  rw [exec_ext (args := [x, y, z]) ho (.cons hx (.cons hy (.cons hz .nil))), run_call_cas_hit h1 h2 h3 h4 kk he hc hf]
  show K' _ _
  rw [actOf_put, hd]
  refine hK _ _ (h _ ?_ Q hQ)
  exact hw.swapped hs (by simp [World.setCell]) rfl rfl rfl (fun _ h => h) (fun i hi => Below.heap_setCell _ _ _ _ hi) (set_block hb)
/-! ### Results that lie in memory -/
/-- What a result variable holds. -/
inductive Res (P : Program) (n : Fr) (E : Env) (L : List Asrt) : List ResultVar → List Value → Prop
  | nil : Res P n E L [] []
  | tmp {t : Tmp} {v : Value} {rs : List ResultVar} {vs : List Value} : Nat.blt t n.n = true → E t = v → Res P n E L rs vs → Res P n E L (.tmp t :: rs) (v :: vs)
  | cell {t b : Nat} {ty e : TypeId} {cs : List Value} {rs : List ResultVar} {vs : List Value} : Nat.blt t n.n = true → E t = cellPtr (some ⟨b, 0, none⟩) 0 → aggT P ty = true → szT P ty = some cs.length → pt b e cs ∈ L → Res P n E L rs vs → Res P n E L (.cell t ty :: rs) (.agg cs.toArray :: vs)
def one_ : List Value → Value
  | [v] => v
  | vs => .tuple vs.toArray
theorem run_resItems {g : ResultVar → Sem Value} {rs : List ResultVar} {vs : List Value} {w : World} (g1 : ∀ t, g (.tmp t) = pure ((actOf n E).tmps.getD t undef)) (g2 : ∀ a t, g (.cell a t) = (do loadVar t (← asAddr ((actOf n E).tmps.getD a undef))))
    (h : Res P n E L rs vs) (hw : H w0 L w) : (rs.mapM g).run P w = .ok vs w := by
  induction h with
  | nil => rfl
  | @tmp t v rs vs hn hE _ ih =>
    have : (actOf n E).tmps.getD t undef = v := Ev.t (E := E) hn hE
    rw [List.mapM_cons, g1]
    simp only [Sem.run_bind, Sem.run_pure, Result.andThen_ok, this, ih]
  | @cell t b ty e cs rs vs hn hE hag hsz hm _ ih =>
    have hb : w.heap[b]? = some (.cells cs.toArray e (0, 0)) := (hw.2.in_ _ hm).1
    have hv : (actOf n E).tmps.getD t undef = .pointer (some ⟨b, 0, none⟩) := Ev.t (E := E) hn (by rw [hE, cellPtr_some]; rfl)
    have hl := run_loadCells (P := P) (a := ⟨b, 0, none⟩) (w := w) cs 0 #[] fun j u hu => by rw [Nat.zero_add, add_off, Nat.zero_add, cell_of_block hb]; exact hu
    rw [Array.empty_append] at hl
    rw [List.mapM_cons, g2]
    simp only [Sem.run_bind, Sem.run_pure, Result.andThen_ok, hv, asAddr, loadVar, run_isAgg_agg hag, if_true, run_size hsz, loadCells, hl, ih]
theorem run_resultsG {fn : Func} {rs : List ResultVar} {vs : List Value} {w : World} (hr : fn.results = rs.toArray) (h : Res P n E L rs vs) (hw : H w0 L w) : (results fn (actOf n E).tmps).run P w = .ok (one_ vs) w := by
  unfold results
  rw [hr, Array.mapM_eq_mapM_toList, ← bind_pure_comp]
  simp only [Sem.run_bind]
  rw [run_resItems (fun _ => rfl) (fun _ _ => rfl) h hw]
  match vs with
  | [] => rfl
  | [v] => rfl
  | _ :: _ :: _ => rfl
def retG (P : Program) (n : Fr) (w0 : World) (R : Ending → World → Prop) (rs : List ResultVar) : Exit → Post
  | .ret, E, L => ∃ vs, Res P n E L rs vs ∧ ∀ w, H w0 L w → R (.returned (one_ vs)) w
  | .normal, E, L => ∃ vs, Res P n E L rs vs ∧ ∀ w, H w0 L w → R (.returned (one_ vs)) w
  | _, _, _ => False
theorem calls_wcG {m : Nat} {f : FuncId} {fn : Func} {c : Code} {args : List Value} {w : World} {R : Ending → World → Prop} (rs : List ResultVar) (L0 : List Asrt) (hf : P.funcs[f]? = some fn) (hb : fn.body = some c) (hn : fn.ntmps = m) (hl : Nat.ble args.length m = true)
    (hres : fn.results = rs.toArray) (hw : H w0 L0 w) (h : WC P ⟨m, none, []⟩ w0 c (retG P ⟨m, none, []⟩ w0 R rs) (argE args) L0) : Calls P f args.toArray w R := by
  refine calls_of_wp hf hb ?_
  rw [hn, entry_frame args (Nat.le_of_ble_eq_true hl)]
  refine Code.wp_mono ?_ (wpIn_wide.1 (h w hw))
  intro e a w' hq
  cases e with
  | normal => obtain ⟨E', L', rfl, hH, vs, hK, hR⟩ := hq; exact ⟨rfl, _, run_resultsG hres hK hH, hR w' hH⟩
  | ret => obtain ⟨E', L', rfl, hH, vs, hK, hR⟩ := hq; exact ⟨rfl, _, run_resultsG hres hK hH, hR w' hH⟩
  | exit i => obtain ⟨E', L', rfl, hH, hK⟩ := hq; exact hK.elim
  | _ => exact hq.elim
end
end Go.Proofs.Ytbofagfilohhfaa
