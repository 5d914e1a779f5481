/- Rules of the program logic: equality of flat structs and arrays. No condition. -/
import Derived.Test.YtbofagfilohhfaaEng8
import Derived.DeepKeys
import Derived.Laws.StructEq
import Derived.Laws.Cover3
namespace Go.Proofs.Ytbofagfilohhfaa
set_option maxRecDepth 20000
open Go.RowKit
section
variable {P : Program} {n : Fr} {C : World → Prop} {o : Oper} {E : Env} {t t' : TypeId} {x y : Operand} {xs ys : Array Value} {la lb : List Lit} {p : Bool}
/-- The model's equality at a type, on two values. -/
def EqV (P : Program) (t : TypeId) (a b : Value) (p : Bool) : Prop := ∀ w, (Op.equalIn 10000 t a b).run P w = .ok p w
theorem EqV.keys (hk : P.keyTypeAt 4 t = true) (fx : (Value.agg xs).formed P t = true) (fy : (Value.agg ys).formed P t = true) (hx : P.keyLits 4 t xs.toList = some la) (hy : P.keyLits 4 t ys.toList = some lb) (hr : p = true ↔ la = lb) : EqV P t (.agg xs) (.agg ys) p := fun w => by
  obtain ⟨r, h1, h2⟩ := run_equalIn_deep 9996 4 t hk w 4 4 (.agg xs) (.agg ys) la lb fx fy hx hy
  rw [show (10000 : Nat) = 9996 + 4 from rfl, h1]
  congr 1
  cases r <;> cases p <;> simp_all
/-- Two cells of numbers of one kind. -/
def ceq : Value → Value → Bool
  | .int _ a, .int _ b => a == b
  | _, _ => false
def ikind : Value → Value → Bool
  | .int k _, .int k' _ => k == k'
  | _, _ => false
def intsAt (P : Program) (fs : List Field) : Bool := fs.all fun f => f.name != "_" && match P.underlying f.type with | some (.int _) => true | _ => false
theorem run_eqFields {d : Nat} {w : World} : ∀ {fs : List Field}, intsAt P fs = true → (∀ f ∈ fs, ∃ u v, xs[f.offset]? = some u ∧ ys[f.offset]? = some v ∧ ikind u v = true) →
    (Op.eqFields (d + 1) xs ys fs).run P w = .ok (fs.all fun f => ceq (xs.getD f.offset undef) (ys.getD f.offset undef)) w
  | [], _, _ => by simp [Op.eqFields]
  | f :: fs, h, hh => by
    obtain ⟨u, v, hu, hv, hk⟩ := hh f (by simp)
    unfold intsAt at h
    rw [List.all_cons, Bool.and_eq_true] at h
    obtain ⟨h1, h2⟩ := h
    have ih := run_eqFields (d := d) (w := w) h2 (fun g hg => hh g (by simp [hg]))
    rw [Bool.and_eq_true] at h1
    have hn : f.name ≠ "_" := by simpa using h1.1
    have hi := h1.2
    cases hT : P.underlying f.type with
    | none => simp [hT] at hi
    | some td =>
      cases td <;> simp [hT] at hi
      rename_i k0
      have hp : P.plainKey f.type = true := by unfold Program.plainKey; rw [hT]
      have hD1 : xs.getD f.offset undef = u := by simp [Array.getD_eq_getD_getElem?, hu]
      have hD2 : ys.getD f.offset undef = v := by simp [Array.getD_eq_getD_getElem?, hv]
      cases u <;> cases v <;> simp [ikind] at hk
      subst hk
      rename_i k a b
      rw [Op.eqFields, if_pos hn, Sem.run_bind, run_part_plain w hp hu]
      simp only [Result.andThen_ok]
      rw [Sem.run_bind, run_part_plain w hp hv]
      simp only [Result.andThen_ok]
      rw [Sem.run_bind, run_equalIn_int w d f.type k k0 a b hT]
      rw [List.all_cons, hD1, hD2]
      simp only [Result.andThen_ok]
      by_cases hab : a = b
      · subst hab
        rw [show ceq (Value.int k a) (Value.int k a) = true from by simp [ceq]]
        simp only [beq_self_eq_true, Bool.not_true, Bool.false_eq_true, if_false, if_true, Bool.true_and]
        exact ih
      · simp [hab, ceq]
theorem EqV.ints {xs ys : Array Value} (ht : P.underlying t = some (.struct (P.fieldsOf t))) (hp : P.stoodInHeld t = false) (h : intsAt P (P.fieldsOf t).toList = true)
    (hh : ((P.fieldsOf t).toList.all fun f => decide (f.offset < xs.size) && decide (f.offset < ys.size) && ikind (xs.getD f.offset undef) (ys.getD f.offset undef)) = true)
    (hr : ((P.fieldsOf t).toList.all fun f => ceq (xs.getD f.offset undef) (ys.getD f.offset undef)) = p) : EqV P t (.agg xs) (.agg ys) p := fun w => by
  rw [show (10000 : Nat) = (9998 + 1) + 1 from rfl, run_equalIn_agg w (9998 + 1) t xs ys ht hp, run_eqFields h, hr]
  intro f hf
  have h3 := List.all_eq_true.1 hh f hf
  simp only [Bool.and_eq_true, decide_eq_true_eq] at h3
  refine ⟨_, _, Array.getElem?_eq_getElem h3.1.1, Array.getElem?_eq_getElem h3.1.2, ?_⟩
  have h4 := h3.2
  simp only [Array.getD_eq_getD_getElem?, Array.getElem?_eq_getElem h3.1.1, Array.getElem?_eq_getElem h3.1.2, Option.getD_some] at h4
  exact h4
theorem run_eqItems_ints {d : Nat} {w : World} {e : TypeId} {k0 : IntKind} (hT : P.underlying e = some (.int k0)) : ∀ {is : List Nat}, (∀ j ∈ is, ∃ u v, xs[j * 1]? = some u ∧ ys[j * 1]? = some v ∧ ikind u v = true) →
    (Op.eqItems (d + 1) e 1 xs ys is).run P w = .ok (is.all fun j => ceq (xs.getD j undef) (ys.getD j undef)) w
  | [], _ => by simp [Op.eqItems]
  | j :: is, hh => by
    obtain ⟨u, v, hu, hv, hk⟩ := hh j (by simp)
    have ih := run_eqItems_ints (d := d) (w := w) (is := is) hT (fun g hg => hh g (by simp [hg]))
    have hp : P.plainKey e = true := by unfold Program.plainKey; rw [hT]
    have hD1 : xs.getD j undef = u := by rw [Nat.mul_one] at hu; simp [Array.getD_eq_getD_getElem?, hu]
    have hD2 : ys.getD j undef = v := by rw [Nat.mul_one] at hv; simp [Array.getD_eq_getD_getElem?, hv]
    cases u <;> cases v <;> simp [ikind] at hk
    subst hk
    rename_i k a b
    rw [Op.eqItems, Sem.run_bind, run_part_plain w hp hu]
    simp only [Result.andThen_ok]
    rw [Sem.run_bind, run_part_plain w hp hv]
    simp only [Result.andThen_ok]
    rw [Sem.run_bind, run_equalIn_int w d e k k0 a b hT]
    rw [List.all_cons, hD1, hD2]
    simp only [Result.andThen_ok]
    by_cases hab : a = b
    · subst hab
      rw [show ceq (Value.int k a) (Value.int k a) = true from by simp [ceq]]
      simp only [beq_self_eq_true, Bool.not_true, Bool.false_eq_true, if_false, if_true, Bool.true_and]
      exact ih
    · simp [hab, ceq]
theorem EqV.arr {e : TypeId} {m : Nat} {i : TypeInfo} {k0 : IntKind} (ht : P.underlying t = some (.array m e)) (hi : P.info? e = some i) (hc : P.cellsOf e = 1) (he : P.underlying e = some (.int k0)) (hh : ∀ j, j < m → ∃ u v, xs[j]? = some u ∧ ys[j]? = some v ∧ ikind u v = true)
    (hr : ((List.range m).all fun j => ceq (xs.getD j undef) (ys.getD j undef)) = p) : EqV P t (.agg xs) (.agg ys) p := fun w => by
  rw [show (10000 : Nat) = (9998 + 1) + 1 from rfl, run_equalIn_array w (9998 + 1) xs ys ht hi, hc, run_eqItems_ints he (fun j hj => by rw [Nat.mul_one]; exact hh j (by simpa using hj)), hr]
theorem g_aeq (hg : P.eqGuardType P.depth t = false) (ho : o.op = .binOp .eql t x y t') (ex : Ev n E x (.agg xs)) (ey : Ev n E y (.agg ys)) (hr : EqV P t (.agg xs) (.agg ys) p) : Gives P n C o E (.bool p) := fun w _ => by
  unfold Ev at ex ey; unfold execOp
  simp [ho, ex, ey, run_eqGuard_agg, hg, run_eql_struct, hr w]
theorem g_ane (hg : P.eqGuardType P.depth t = false) (ho : o.op = .binOp .neq t x y t') (ex : Ev n E x (.agg xs)) (ey : Ev n E y (.agg ys)) (hr : EqV P t (.agg xs) (.agg ys) p) : Gives P n C o E (.bool !p) := fun w _ => by
  unfold Ev at ex ey; unfold execOp
  simp [ho, ex, ey, run_eqGuard_agg, hg, run_neq_struct, hr w]
theorem run_equal_sn {w : World} {e : TypeId} {A : Option Addr} {m c : Nat} (h : P.underlying t = some (.slice e)) : (Op.equal t (.slice A m c) (.slice none 0 0)).run P w = .ok A.isNone w := Go.run_equal_slice_nil w t e A m c h
theorem g_eqSNS {e : TypeId} {A : Option Addr} {m c : Nat} (ho : o.op = .binOp .eql t x y t') (ht : P.underlying t = some (.slice e)) (hx : Ev n E x (.slice A m c)) (hy : Ev n E y (.slice none 0 0)) (hA : ∀ w, C w → A.isSome = true) : Gives P n C o E (.bool false) := fun w hw => by
  unfold Ev at hx hy; unfold execOp
  obtain ⟨a, rfl⟩ := Option.isSome_iff_exists.1 (hA w hw)
  simp [ho, hx, hy, eqGuard, binOp, run_equal_sn ht]
theorem g_eqSNN {e : TypeId} {m c : Nat} (ho : o.op = .binOp .eql t x y t') (ht : P.underlying t = some (.slice e)) (hx : Ev n E x (.slice none m c)) (hy : Ev n E y (.slice none 0 0)) : Gives P n C o E (.bool true) := fun w _ => by
  unfold Ev at hx hy; unfold execOp
  simp [ho, hx, hy, eqGuard, binOp, run_equal_sn ht]
theorem g_neSNS {e : TypeId} {A : Option Addr} {m c : Nat} (ho : o.op = .binOp .neq t x y t') (ht : P.underlying t = some (.slice e)) (hx : Ev n E x (.slice A m c)) (hy : Ev n E y (.slice none 0 0)) (hA : ∀ w, C w → A.isSome = true) : Gives P n C o E (.bool true) := fun w hw => by
  unfold Ev at hx hy; unfold execOp
  obtain ⟨a, rfl⟩ := Option.isSome_iff_exists.1 (hA w hw)
  simp [ho, hx, hy, eqGuard, binOp, run_equal_sn ht]
theorem g_neSNN {e : TypeId} {m c : Nat} (ho : o.op = .binOp .neq t x y t') (ht : P.underlying t = some (.slice e)) (hx : Ev n E x (.slice none m c)) (hy : Ev n E y (.slice none 0 0)) : Gives P n C o E (.bool false) := fun w _ => by
  unfold Ev at hx hy; unfold execOp
  simp [ho, hx, hy, eqGuard, binOp, run_equal_sn ht]
end
end Go.Proofs.Ytbofagfilohhfaa
