/- The program logic: structs with fields of several cells, elements of arrays that are structs. Over any program. No condition. -/
import Derived.Test.YtbofagfilohhfaaEng14
namespace Go.Proofs.Ytbofagfilohhfaa
set_option maxRecDepth 20000
open Go.RowKit
section
variable {P : Program} {n : Fr} {w0 : World} {E : Env} {L : List Asrt} {C : World → Prop} {o : Oper}
/-- The places of a struct's fields, of an array's elements. -/
def plT (P : Program) (t : TypeId) (i : Nat) : Option (Nat × Nat) :=
  match P.underlying t with
  | some (.struct fs) => (fs[i]?).bind fun fd => (szT P fd.type).map fun s => (fd.offset, s)
  | _ => none
def allSz (P : Program) (t : TypeId) : Bool :=
  match P.underlying t with
  | some (.struct fs) => fs.toList.all fun fd => (szT P fd.type).isSome
  | _ => false
def spls (place : Nat → Option (Nat × Nat)) (cs : List Value) : List (Nat × List Value) → List Value
  | [] => cs
  | (i, v) :: r => match place i with | some (off, _) => spls place (spl cs off v) r | none => cs
theorem spl_len {xs vs : List Value} {k : Nat} (h : k + vs.length ≤ xs.length) : (spl xs k vs).length = xs.length := by
  unfold spl; simp; omega
theorem fill_spls {place : Nat → Option (Nat × Nat)} : ∀ (vs : List (Nat × Value)) (us : List (Nat × List Value)) (cs : List Value), (vs.map fun p => (p.1, p.2.cells.toList)) = us → (∀ p ∈ us, ∃ off sz, place p.1 = some (off, sz) ∧ p.2.length = sz ∧ off + sz ≤ cs.length) →
    Instr.fill place cs.toArray vs = some (spls place cs us).toArray
  | [], _, cs, hu, _ => by subst hu; rfl
  | (i, v) :: vs, _, cs, hu, h => by
    subst hu
    obtain ⟨off, sz, h1, h2, h3⟩ := h (i, v.cells.toList) (by simp)
    have h1' : place i = some (off, sz) := h1
    rw [fill_one (sz := sz) h1' (by simpa using h2) (by simpa using h3), List.map_cons, spls]
    simp only [h1']
    have e : cs.toArray.toList.take off ++ v.cells.toList ++ cs.toArray.toList.drop (off + sz) = spl cs off v.cells.toList := by
      unfold spl; rw [← h2]
    rw [e]
    have hl : (spl cs off v.cells.toList).length = cs.length := spl_len (by rw [show v.cells.toList.length = sz from h2]; exact h3)
    exact fill_spls vs _ _ rfl fun p hp => by obtain ⟨a, b, c1, c2, c3⟩ := h p (by simp only [List.map_cons, List.mem_cons]; exact .inr hp); exact ⟨a, b, c1, c2, by rw [hl]; exact c3⟩
theorem run_placesS {fs : Array Field} {w : World} (h : (fs.toList.all fun fd => (szT P fd.type).isSome) = true) :
    ∃ pl : Array (Nat × Nat), (fs.mapM (fun f => do pure (f.offset, ← sizeOf f.type) : Field → Sem (Nat × Nat))).run P w = .ok pl w ∧ ∀ i : Nat, pl[i]? = (fs[i]?).bind fun fd : Field => (szT P fd.type).map fun s => (fd.offset, s) := by
  have key : ∀ (l : List Field), (∀ f ∈ l, (szT P f.type).isSome = true) → (l.mapM (fun f => do pure (f.offset, ← sizeOf f.type) : Field → Sem (Nat × Nat))).run P w = .ok (l.map fun f => (f.offset, (szT P f.type).getD 0)) w := by
    intro l
    induction l with
    | nil => intro _; rfl
    | cons f l ih =>
      intro hl
      have hf := hl f (by simp)
      cases hs : szT P f.type with
      | none => rw [hs] at hf; cases hf
      | some s =>
        rw [List.mapM_cons]
        simp only [Sem.run_bind, run_size hs, Result.andThen_ok, Sem.run_pure, ih fun g hg => hl g (by simp [hg]), List.map_cons, hs, Option.getD_some]
  have hall := List.all_eq_true.1 h
  refine ⟨(fs.toList.map fun f => (f.offset, (szT P f.type).getD 0)).toArray, ?_, fun i => ?_⟩
  · rw [Array.mapM_eq_mapM_toList]
    rw [← bind_pure_comp]
    simp only [Sem.run_bind, key fs.toList hall, Result.andThen_ok, Sem.run_pure]
  · cases hi : fs[i]? with
    | none => simp at hi; simp [hi]
    | some fd =>
      have hm : fd ∈ fs.toList := by rw [Array.mem_toList_iff]; exact Array.mem_of_getElem? hi
      have h2 := hall fd hm
      have : fs.toList[i]? = some fd := by simpa using hi
      cases hs : szT P fd.type with
      | none => rw [hs] at h2; cases h2
      | some s => simp [hi, hs]
theorem g_buildS {t : TypeId} {parts : List (Nat × Operand)} {vs : List (Nat × Value)} {us : List (Nat × List Value)} {z : Value} {zs cs : List Value} (ho : o.op = .build t parts.toArray) (hf : allSz P t = true) (hz : (P.info? t).map (·.zero) = some (some z)) (hzs : z.cells = zs.toArray)
    (hp : EvI n E parts vs) (hu : (vs.map fun p => (p.1, p.2.cells.toList)) = us) (hok : ∀ p ∈ us, ∃ off sz, plT P t p.1 = some (off, sz) ∧ p.2.length = sz ∧ off + sz ≤ zs.length) (hr : spls (plT P t) zs us = cs) : Gives P n C o E (.agg cs.toArray) := fun w _ => by
  subst hr
  unfold allSz at hf
  cases hun : P.underlying t with
  | none => rw [hun] at hf; cases hf
  | some d =>
    rw [hun] at hf
    cases d with
    | struct fs =>
      obtain ⟨pl, hpl, hpl2⟩ := run_placesS (P := P) (w := w) hf
      have hplt : (fun j => pl[j]?) = plT P t := by
        funext j; rw [hpl2, plT, hun]
      cases hi : P.info? t with
      | none => rw [hi] at hz; cases hz
      | some i =>
        rw [hi] at hz
        simp at hz
        have hfill := fill_spls (place := fun j => pl[j]?) vs us zs hu fun p hp => by obtain ⟨a, b, c1, c2, c3⟩ := hok p hp; exact ⟨a, b, (congrFun hplt p.1).trans c1, c2, c3⟩
        have hm : (parts.toArray.map fun (i, x) => (i, (actOf n E).eval x)) = vs.toArray := by rw [List.map_toArray, hp.map]
        unfold execOp
        rw [← hplt]
        simp only [ho, hm, Instr.build, zeroValue, typeInfo, program, Sem.run_bind, Sem.run, Sem.run_pure, Result.andThen_ok, hi, hz, run_underlying hun, hpl, hzs, List.toList_toArray, hfill]
    | _ => cases hf
theorem g_buildArrS {t e : TypeId} {m sz : Nat} {parts : List (Nat × Operand)} {vs : List (Nat × Value)} {us : List (Nat × List Value)} {z : Value} {zs cs : List Value} (ho : o.op = .build t parts.toArray) (ht : P.underlying t = some (.array m e)) (he : szT P e = some sz) (hz : (P.info? t).map (·.zero) = some (some z)) (hzs : z.cells = zs.toArray)
    (hp : EvI n E parts vs) (hu : (vs.map fun p => (p.1, p.2.cells.toList)) = us) (hok : ∀ p ∈ us, p.2.length = sz ∧ p.1 * sz + sz ≤ zs.length) (hr : spls (fun i => some (i * sz, sz)) zs us = cs) : Gives P n C o E (.agg cs.toArray) := fun w _ => by
  subst hr
  cases hi : P.info? t with
  | none => rw [hi] at hz; cases hz
  | some i =>
    rw [hi] at hz
    simp at hz
    have hfill := fill_spls (place := fun j => some (j * sz, sz)) vs us zs hu fun p hp => ⟨_, _, rfl, hok p hp⟩
    have hm : (parts.toArray.map fun (i, x) => (i, (actOf n E).eval x)) = vs.toArray := by rw [List.map_toArray, hp.map]
    unfold execOp
    simp only [ho, hm, Instr.build, zeroValue, typeInfo, program, Sem.run_bind, Sem.run, Sem.run_pure, Result.andThen_ok, hi, hz, run_underlying ht, run_size he, hzs, List.toList_toArray, hfill]
/-- An element that is a struct or an array, of an array in a register. -/
theorem g_indexG {t e : TypeId} {x y : Operand} {cs : Array Value} {m j sz : Nat} {kk : IntKind} {z : Int} {us : List Value} (ho : o.op = .index t x y) (hx : Ev n E x (.agg cs)) (hy : Ev n E y (.int kk z)) (ht : P.underlying t = some (.array m e)) (h1 : aggT P e = true) (hs : szT P e = some sz)
    (hz : z = (j : Int)) (hj : j < m) (hle : j * sz + sz ≤ cs.size) (hu : (cs.toList.drop (j * sz)).take sz = us) : Gives P n C o E (.agg us.toArray) := fun w hw => by
  subst hu
  unfold Ev at hx hy; unfold execOp
  have e1 : (cs.extract (j * sz) (j * sz + sz)) = ((cs.toList.drop (j * sz)).take sz).toArray := by
    apply Array.ext'
    rw [Array.toList_extract]
    simp [List.extract]
  simp [ho, hx, hy, Instr.index, asIntOf, run_underlying ht, run_size hs, part, run_isAgg_agg h1, hz, hj, hle, e1]
end
section
variable {P : Program} {n : Fr} {w0 : World} {ops : Array Oper} {K : Post} {o : Oper} {rest : List Oper} {E : Env} {L : List Asrt}
/-- A closure that makes new memory. -/
theorem WL1.callVN {x : Operand} {args : List Operand} {ts : Array TypeId} {d : Option Tmp} {f : FuncId} {cap vals : List Value} {Φ : Value → List Asrt → Prop} (ho : o.op = .call { callee := .value x, args := args.toArray, argTypes := ts }) (hd : o.dst = d) (hx : Ev n E x (.func (.func f) #[] cap.toArray)) (hc : callable P f = true) (hv : Evs n E args vals)
    (h : ∀ w, H w0 L w → Calls P f (vals ++ cap).toArray w fun e w' => ∃ v M, e = .returned v ∧ H w M w' ∧ Φ v M) (k : ∀ v M, Φ v M → WL P n w0 ops K rest (E.put d v) (M ++ L)) : WL1 P n w0 ops K o rest E L :=
  WL1.callVF ho hd hx hc hv (Φ := fun v L' => ∃ M, L' = M ++ L ∧ Φ v M) (fun w hw => (h w hw).mono fun _ _ ⟨v, M, he, hM, hΦ⟩ => ⟨v, M ++ L, he, hw.join hM, M, rfl, hΦ⟩) fun v L' ⟨M, e, hΦ⟩ => by subst e; exact k v M hΦ
theorem subA_zero (g c sz : Nat) : subA (some ⟨g, 0, none⟩) c 0 sz = some ⟨g, 0, none⟩ := by
  unfold subA
  by_cases h : c = 0
  · rw [if_pos h]
  · rw [if_neg h, Nat.zero_mul]; rfl
end
end Go.Proofs.Ytbofagfilohhfaa
