/- The program logic: memory. Over any program. No condition. -/
import Derived.Test.YtbofagfilohhfaaEng2
namespace Go.Proofs.Ytbofagfilohhfaa
set_option maxRecDepth 20000
open Go.RowKit

def nth {α : Type} [Inhabited α] (l : List α) (k : Nat) : α := l.getD k default
theorem nth_eq {α : Type} [Inhabited α] {l : List α} {k : Nat} (h : k < l.length) : nth l k = l[k] := by unfold nth; simp [List.getD_eq_getElem?_getD, h]
theorem nth_get {α : Type} [Inhabited α] {l : List α} {k : Nat} (h : k < l.length) : l[k]? = some (nth l k) := by rw [nth_eq h]; exact List.getElem?_eq_getElem h
theorem get1 {α : Type} [Inhabited α] {f : α → Value} {l : List α} {k : Nat} (h : k < l.length) : (l.map f)[k * 1]? = some (f (nth l k)) := by
  rw [Nat.mul_one, List.getElem?_map, nth_get h]; rfl
theorem flat_get {α : Type} [Inhabited α] {enc : α → List Value} {sz : Nat} : ∀ {l : List α} {k j : Nat}, (∀ a ∈ l, (enc a).length = sz) → k < l.length → j < sz → (l.flatMap enc)[k * sz + j]? = (enc (nth l k))[j]?
  | [], k, j, _, h, _ => by simp at h
  | a :: l, k, j, he, hk, hj => by
    have ha := he a (by simp)
    rw [List.flatMap_cons]
    cases k with
    | zero => rw [List.getElem?_append_left (by omega)]; simp [nth]
    | succ k =>
      rw [List.getElem?_append_right (by rw [Nat.succ_mul]; omega), show (k + 1) * sz + j - (enc a).length = k * sz + j from by rw [Nat.succ_mul]; omega]
      have := flat_get (enc := enc) (l := l) (k := k) (j := j) (fun a h => he a (by simp [h])) (by simpa using hk) hj
      rw [this]
      simp [nth]
theorem flat_len {α : Type} {enc : α → List Value} {sz : Nat} : ∀ {l : List α}, (∀ a ∈ l, (enc a).length = sz) → (l.flatMap enc).length = l.length * sz
  | [], _ => by simp
  | a :: l, he => by
    rw [List.flatMap_cons, List.length_append, he a (by simp), flat_len (fun a h => he a (by simp [h])), List.length_cons, Nat.succ_mul]; omega

theorem all1 {vs : List Value} (h : (vs.all fun v => v.oneCell') = true) : ∀ v ∈ vs, v.oneCell' = true := List.all_eq_true.1 h
/-- A pointer to the cell number o behind A. -/
@[irreducible] def cellPtr (A : Option Addr) (o : Nat) : Value := .pointer (A.map (·.add o))
/-- In every world of the class the cell number o behind A holds u. -/
def RdC (C : World → Prop) (A : Option Addr) (o : Nat) (u : Value) : Prop := ∀ w, C w → ∃ a, A = some a ∧ w.cell? (a.add o) = some u
theorem cellPtr_cells (A : Option Addr) (o : Nat) : (cellPtr A o).cells = [cellPtr A o].toArray := by unfold cellPtr; rfl
theorem cellPtr_one (A : Option Addr) (o : Nat) : (cellPtr A o).oneCell' = true := by unfold cellPtr; rfl
theorem cellPtr_some (a : Addr) (o : Nat) : cellPtr (some a) o = .pointer (some (a.add o)) := by unfold cellPtr; rfl

section
variable {P : Program} {n : Fr} {w0 : World} {ops : Array Oper} {lops : List Oper} {K : Post} {o : Oper} {rest : List Oper} {E : Env} {L : List Asrt} {C : World → Prop}
theorem rd_sl {sz m m' c k : Nat} {A : Option Addr} {xs : List Value} {u : Value} (hs : Sl w0 sz (.slice A m c) m' xs) (hu : xs[k]? = some u) : RdC (H w0 L) A k u := fun w hw => by
  obtain ⟨h1, A', c', h2, h3, h4, h5⟩ := hs
  injection h2 with e1 e2 e3
  have hk : k < xs.length := (List.getElem?_eq_some_iff.1 hu).1
  have hm : 0 < m' := by
    rcases Nat.eq_zero_or_pos m' with h | h
    · rw [h1, h, Nat.zero_mul] at hk; omega
    · exact h
  obtain ⟨ad, e, hl, hc⟩ := h5 hm
  refine ⟨ad, e1.trans e, ?_⟩
  exact (hw.1.cell (by rw [addBlock]; exact hl)).trans (hc k u hu)
theorem sl_some {w : World} {sz m m' c : Nat} {A : Option Addr} {xs : List Value} (hs : Sl w sz (.slice A m c) m' xs) (hk : 0 < m') : A.isSome = true := by
  obtain ⟨h1, A', c', h2, h3, h4, h5⟩ := hs
  injection h2 with e1 e2 e3
  obtain ⟨ad, e, _⟩ := h5 hk
  rw [e1, e]; rfl
theorem add_off (b o k : Nat) : (⟨b, o, none⟩ : Addr).add k = ⟨b, o + k, none⟩ := by unfold Addr.add; split <;> simp_all
theorem cell_of_block {w : World} {b : Nat} {cs : List Value} {e : TypeId} {f : Nat × Nat} {k : Nat} (h : w.heap[b]? = some (.cells cs.toArray e f)) : w.cell? ⟨b, k, none⟩ = cs[k]? := by
  unfold World.cell?; simp [h]
theorem rd_pt {b k : Nat} {off : Nat} {e : TypeId} {cs : List Value} {u : Value} (hm : pt b e cs ∈ L) (hu : cs[off + k]? = some u) : RdC (H w0 L) (some ⟨b, off, none⟩) k u := fun w hw => by
  refine ⟨_, rfl, ?_⟩
  have : w.heap[b]? = some (.cells cs.toArray e (0, 0)) := ((hw.2.in_ _ hm).1)
  rw [add_off, cell_of_block this]; exact hu
/-- A cell that was there when the call began. -/
theorem rd_w {w : World} {a : Addr} {k : Nat} {u : Value} (hc : w.cell? (a.add k) = some u) : RdC (H w L) (some a) k u := fun w' hw => ⟨a, rfl, (hw.1.cell (World.block_lt_of_cell? w _ hc)).trans hc⟩
theorem rd_wb {w : World} {b k : Nat} {u : Value} (hc : w.cell? ⟨b, k, none⟩ = some u) : RdC (H w L) (some ⟨b, 0, none⟩) k u := rd_w (by rw [add_off, Nat.zero_add]; exact hc)
theorem cell_pt {w : World} {b k : Nat} {e : TypeId} {cs : List Value} {u : Value} (hw : H w0 L w) (hm : pt b e cs ∈ L) (hu : cs[k]? = some u) : w.cell? ⟨b, k, none⟩ = some u := by
  have : w.heap[b]? = some (.cells cs.toArray e (0, 0)) := ((hw.2.in_ _ hm).1)
  rw [cell_of_block this]; exact hu
/-- A slice that the call owns, and may append to: its first n elements. -/
def vec (A : Option Addr) (m c : Nat) (e : TypeId) (sz : Nat) (xs : List Value) : Asrt where
  foot b := ∃ a, A = some a ∧ a.block = b
  ok w := w.ownsRow 0 e sz (.slice A m c) m xs
  loc w w' h hw := by
    refine ⟨hw.1, ?_⟩
    rcases hw.2 with h1 | ⟨g, cap, cur, h1, h2, h3, r⟩
    · exact .inl h1
    · refine .inr ⟨g, cap, cur, h1, h2, ?_, r⟩
      injection h1 with e1
      rw [h g ⟨_, e1, rfl⟩]; exact h3
theorem rd_vec {m c k : Nat} {A : Option Addr} {e : TypeId} {sz : Nat} {xs : List Value} {u : Value} (hm : vec A m c e sz xs ∈ L) (hu : xs[k]? = some u) : RdC (H w0 L) A k u := fun w hw => by
  have h := Sl.of_own (hw.2.in_ _ hm).1
  obtain ⟨h1, A', c', h2, h3, h4, h5⟩ := h
  injection h2 with e1 e2 e3
  have hk : k < xs.length := (List.getElem?_eq_some_iff.1 hu).1
  have hm : 0 < m := by
    rcases Nat.eq_zero_or_pos m with h | h
    · rw [h1, h, Nat.zero_mul] at hk; omega
    · exact h
  obtain ⟨ad, e, hl, hc⟩ := h5 hm
  exact ⟨ad, e1.trans e, hc k u hu⟩
theorem Sl.of_vec {w : World} {m c : Nat} {A : Option Addr} {e : TypeId} {sz : Nat} {xs : List Value} (hw : H w0 L w) (hm : vec A m c e sz xs ∈ L) : Sl w sz (.slice A m c) m xs := Sl.of_own (hw.2.in_ _ hm).1

theorem vec_some {m c : Nat} {A : Option Addr} {e : TypeId} {sz : Nat} {xs : List Value} {w : World} (hw : H w0 L w) (hm : vec A m c e sz xs ∈ L) (h0 : 0 < m) : A.isSome = true := sl_some (Sl.of_vec hw hm) h0
/-- The type's values take one cell. -/
def oneT (P : Program) (t : TypeId) : Bool := match P.underlying t with | some (.struct _) => false | some (.array _ _) => false | some _ => true | none => false
theorem run_isAgg_one {t : TypeId} (h : oneT P t = true) (w : World) : (isAgg t).run P w = .ok false w := by
  unfold oneT at h
  cases hu : P.underlying t with
  | none => rw [hu] at h; cases h
  | some d => rw [hu] at h; cases d <;> first | (cases h; done) | simp [isAgg, run_underlying hu]
theorem g_load {t : TypeId} {x : Operand} {A : Option Addr} {k : Nat} {u : Value} (ho : o.op = .load t x) (hx : Ev n E x (cellPtr A k)) (ht : oneT P t = true) (hr : RdC C A k u) : Gives P n C o E u := fun w hw => by
  obtain ⟨a, rfl, hc⟩ := hr w hw
  unfold Ev at hx; unfold execOp
  simp only [ho, hx, cellPtr_some, Instr.loadAt, Instr.sureAddr, Sem.run_bind, Sem.run_pure, Result.andThen_ok, loadVar, run_isAgg_one ht, Bool.false_eq_true, if_false]
  simp [load, Sem.run, hc]
def szT (P : Program) (t : TypeId) : Option Nat := (P.info? t).map (·.size)
theorem run_size {t : TypeId} {s : Nat} (h : szT P t = some s) (w : World) : (sizeOf t).run P w = .ok s w := by
  unfold szT at h
  cases hi : P.info? t with
  | none => rw [hi] at h; cases h
  | some i => rw [hi] at h; simp at h; simp [sizeOf, typeInfo, hi, h]
/-- Of an element of a slice the address. -/
theorem g_indexAddr {t e : TypeId} {x y : Operand} {A : Option Addr} {m c sz j : Nat} {kk : IntKind} {z : Int} (ho : o.op = .indexAddr t x y) (hx : Ev n E x (.slice A m c)) (hy : Ev n E y (.int kk z))
    (ht : P.underlying t = some (.slice e)) (hs : szT P e = some sz) (hz : z = (j : Int)) (hj : j < m) (hA : ∀ w, C w → A.isSome = true) : Gives P n C o E (cellPtr A (j * sz)) := fun w hw => by
  obtain ⟨a, rfl⟩ := Option.isSome_iff_exists.1 (hA w hw)
  unfold Ev at hx hy; unfold execOp
  have h1 : (0 : Int) ≤ z ∧ z < (m : Int) := by omega
  simp [ho, hx, hy, Instr.indexAt, asIntOf, run_underlying ht, run_size hs, h1, hz, cellPtr_some, hj]
/-- Of an element of an array that lies in memory the address. -/
theorem g_indexAddrA {t e : TypeId} {x y : Operand} {A : Option Addr} {m sz j k : Nat} {kk : IntKind} {z : Int} (ho : o.op = .indexAddr t x y) (hx : Ev n E x (cellPtr A k)) (hy : Ev n E y (.int kk z))
    (ht : P.underlying t = some (.array m e)) (hs : szT P e = some sz) (hz : z = (j : Int)) (hj : j < m) (hA : ∀ w, C w → A.isSome = true) : Gives P n C o E (cellPtr A (k + j * sz)) := fun w hw => by
  obtain ⟨a, rfl⟩ := Option.isSome_iff_exists.1 (hA w hw)
  unfold Ev at hx hy; unfold execOp
  have h1 : (0 : Int) ≤ z ∧ z < (m : Int) := by omega
  simp [ho, hx, hy, Instr.indexAt, asIntOf, run_underlying ht, run_size hs, h1, hz, cellPtr_some, hj, Instr.sureAddr, addAdd]
/-- The place of a field. -/
def offT (P : Program) (t : TypeId) (f : Nat) : Option Nat :=
  match P.underlying t with
  | some (.struct fs) => (fs[f]?).bind fun fd => (szT P fd.type).bind fun s => if s = 0 then none else some fd.offset
  | _ => none
theorem g_fieldAddr {t : TypeId} {x : Operand} {A : Option Addr} {k f off : Nat} (ho : o.op = .fieldAddr t x f) (hx : Ev n E x (cellPtr A k)) (hf : offT P t f = some off) (hA : ∀ w, C w → A.isSome = true) : Gives P n C o E (cellPtr A (k + off)) := fun w hw => by
  obtain ⟨a, rfl⟩ := Option.isSome_iff_exists.1 (hA w hw)
  unfold Ev at hx; unfold execOp
  unfold offT at hf
  cases hu : P.underlying t with
  | none => rw [hu] at hf; cases hf
  | some d =>
    rw [hu] at hf
    cases d with
    | struct fs =>
      simp only at hf
      cases hfd : fs[f]? with
      | none => rw [hfd] at hf; cases hf
      | some fd =>
        rw [hfd, Option.bind_some] at hf
        cases hs : szT P fd.type with
        | none => rw [hs] at hf; cases hf
        | some s =>
          rw [hs, Option.bind_some] at hf
          by_cases h0 : s = 0
          · rw [if_pos h0] at hf; cases hf
          · rw [if_neg h0] at hf
            injection hf with hf
            simp [ho, hx, Instr.fieldAt, run_underlying hu, hfd, cellPtr_some, Instr.sureAddr, fieldPlace, run_size hs, h0, hf, addAdd]
    | _ => cases hf
theorem g_nilCheck {x : Operand} {A : Option Addr} {k : Nat} (ho : o.op = .nilCheck x) (hx : Ev n E x (cellPtr A k)) (hA : ∀ w, C w → A.isSome = true) : Gives P n C o E (cellPtr A k) := fun w hw => by
  obtain ⟨a, rfl⟩ := Option.isSome_iff_exists.1 (hA w hw)
  unfold Ev at hx; unfold execOp
  simp [ho, hx, cellPtr_some]
/-! ### Stores -/
theorem run_store1 {t : TypeId} {v : Value} {w : World} {b k : Nat} {cs : List Value} {e : TypeId} (ht : szT P t = some 1) (hb : w.heap[b]? = some (.cells cs.toArray e (0, 0))) (hk : k < cs.length) (hv : v.oneCell' = true) :
    (storeVar t ⟨b, k, none⟩ v).run P w = .ok () (w.setCell ⟨b, k, none⟩ v) := by
  have hc : w.cell? ⟨b, k, none⟩ = some cs[k] := by rw [cell_of_block hb]; exact List.getElem?_eq_getElem hk
  have hf : w.frozen? ⟨b, k, none⟩ = false := by unfold World.frozen?; simp [hb]
  cases v <;> first | (cases hv; done) | simp [storeVar, run_size ht, Value.cells, storeCells, store, Sem.run, hc, hf, Addr.add]
theorem set_block {w : World} {b k : Nat} {cs : List Value} {e : TypeId} {v : Value} (hb : w.heap[b]? = some (.cells cs.toArray e (0, 0))) : (w.setCell ⟨b, k, none⟩ v).heap[b]? = some (.cells (cs.set k v).toArray e (0, 0)) := by
  unfold World.setCell; simp only [Array.getElem?_modify, if_true, hb]; simp
theorem WL1.store1 {t : TypeId} {x y : Operand} {b off k : Nat} {e : TypeId} {cs : List Value} {v : Value} {L' : List Asrt} (ho : o.op = .store t x y) (hd : o.dst = none) (hx : Ev n E x (cellPtr (some ⟨b, off, none⟩) k)) (hy : Ev n E y v)
    (ht : szT P t = some 1) (hv : v.oneCell' = true) (hk : off + k < cs.length) (hs : Swap (pt b e cs) (pt b e (cs.set (off + k) v)) L L') (h : WL P n w0 ops K rest E L') : WL1 P n w0 ops K o rest E L := fun w hw Q hQ K' hK => by
  have hb : w.heap[b]? = some (.cells cs.toArray e (0, 0)) := (hw.2.in_ _ hs.mem).1
  unfold Ev at hx hy
  unfold Oper.wp execOp
  simp only [ho, hx, hy, cellPtr_some, Instr.storeAt, Instr.sureAddr, Sem.run_bind, Sem.run_pure, Result.andThen_ok, add_off, run_store1 ht hb hk hv]
  show K' _ _
  rw [actOf_put, hd]
  refine hK _ _ (h _ ?_ Q hQ)
  refine hw.swapped hs (by simp [World.setCell]) rfl rfl rfl (fun _ h => h) (fun i hi => Below.heap_setCell _ _ _ _ hi) (set_block hb)
theorem vec_stored {w : World} {A : Option Addr} {m c : Nat} {e : TypeId} {sz k : Nat} {xs : List Value} {v : Value} {g : Nat} (hA : A = some ⟨g, 0, none⟩) (h : w.ownsRow 0 e sz (.slice A m c) m xs) (hk : k < xs.length) :
    ∃ cur : List Value, w.heap[g]? = some (.cells cur.toArray e (0, 0)) ∧ k < cur.length ∧ (w.setCell ⟨g, k, none⟩ v).ownsRow 0 e sz (.slice A m c) m (xs.set k v) := by
  subst hA
  obtain ⟨h1, h2⟩ := h
  rcases h2 with ⟨h2, _⟩ | ⟨g', cap, cur, h2, h3, h4, h5, h6, h7, h8⟩
  · cases h2
  · injection h2 with e1 e2 e3
    injection e1 with e1
    injection e1 with e1
    subst e1
    have hkc : k < cur.toList.length := by
      have : xs.length ≤ cur.toList.length := by rw [← h8]; simp; omega
      omega
    refine ⟨cur.toList, by simpa using h4, hkc, by rw [List.length_set]; exact h1, .inr ⟨g, cap, (cur.toList.set k v).toArray, by rw [← e3], h3, ?_, h5, h6, by simpa using h7, ?_⟩⟩
    · exact set_block (by simpa using h4)
    · rw [List.take_set, h8]
theorem WL1.storeV1 {t : TypeId} {x y : Operand} {A : Option Addr} {m c k : Nat} {e : TypeId} {sz : Nat} {xs : List Value} {v : Value} {L' : List Asrt} (ho : o.op = .store t x y) (hd : o.dst = none) (hx : Ev n E x (cellPtr A k)) (hy : Ev n E y v)
    (ht : szT P t = some 1) (hv : v.oneCell' = true) (hk : k < xs.length) (hs : Swap (vec A m c e sz xs) (vec A m c e sz (xs.set k v)) L L') (h : WL P n w0 ops K rest E L') : WL1 P n w0 ops K o rest E L := fun w hw Q hQ K' hK => by
  have hb : w.ownsRow 0 e sz (.slice A m c) m xs := (hw.2.in_ _ hs.mem).1
  have hAg : ∃ g, A = some ⟨g, 0, none⟩ := by
    rcases hb.2 with ⟨h2, h3⟩ | ⟨g', cap, cur, h2, _⟩
    · have := hb.1; rw [h3, Nat.zero_mul] at this; omega
    · injection h2 with e1; exact ⟨g', e1⟩
  obtain ⟨g, rfl⟩ := hAg
  obtain ⟨cur, hcur, hkc, hown⟩ := vec_stored (v := v) rfl hb hk
  unfold Ev at hx hy
  unfold Oper.wp execOp
  simp only [ho, hx, hy, cellPtr_some, Instr.storeAt, Instr.sureAddr, Sem.run_bind, Sem.run_pure, Result.andThen_ok, add_off, Nat.zero_add, run_store1 ht hcur hkc hv]
  show K' _ _
  rw [actOf_put, hd]
  refine hK _ _ (h _ ?_ Q hQ)
  exact hw.swapped hs (by simp [World.setCell]) rfl rfl rfl (fun _ h => h) (fun i hi => Below.heap_setCell _ _ _ _ fun e => hi ⟨_, rfl, e.symm⟩) hown
/-! ### New blocks -/
theorem WL1.box {e : TypeId} {x : Operand} {d : Nat} {v : Value} {cs : List Value} (ho : o.op = .box e x) (hd : o.dst = some d) (hx : Ev n E x v) (hv : v.cells = cs.toArray)
    (h : ∀ b, WL P n w0 ops K rest (E.set d (cellPtr (some ⟨b, 0, none⟩) 0)) (pt b e cs :: L)) : WL1 P n w0 ops K o rest E L := fun w hw Q hQ K' hK => by
  unfold Ev at hx
  unfold Oper.wp execOp
  simp only [ho, hx, Instr.box, newVar, newRow, newObj, Sem.run_bind, Sem.run, Sem.run_pure, Result.andThen_ok, hv]
  show K' _ _
  rw [actOf_put, hd]
  have := h w.heap.size _ (hw.alloc cs e) Q hQ
  rw [cellPtr_some, show (⟨w.heap.size, 0, none⟩ : Addr).add 0 = ⟨w.heap.size, 0, none⟩ from rfl] at this
  exact hK _ _ this
theorem WL1.alloc {e : TypeId} {d : Nat} {z : Value} {cs : List Value} (ho : o.op = .alloc e) (hd : o.dst = some d) (hz : (P.info? e).map (·.zero) = some (some z)) (hv : z.cells = cs.toArray)
    (h : ∀ b, WL P n w0 ops K rest (E.set d (cellPtr (some ⟨b, 0, none⟩) 0)) (pt b e cs :: L)) : WL1 P n w0 ops K o rest E L := fun w hw Q hQ K' hK => by
  cases hi : P.info? e with
  | none => rw [hi] at hz; cases hz
  | some i =>
    rw [hi] at hz
    simp at hz
    unfold Oper.wp execOp
    simp only [ho, Instr.alloc, zeroValue, typeInfo, newVar, newRow, newObj, Sem.run_bind, Sem.run, Sem.run_pure, Result.andThen_ok, program, hi, hz, hv]
    show K' _ _
    rw [actOf_put, hd]
    have := h w.heap.size _ (hw.alloc cs e) Q hQ
    rw [cellPtr_some, show (⟨w.heap.size, 0, none⟩ : Addr).add 0 = ⟨w.heap.size, 0, none⟩ from rfl] at this
    exact hK _ _ this
theorem H.vec_new {w : World} (hw : H w0 L w) (cs : List Value) (e : TypeId) (sz m : Nat) (hl : cs.length = m * sz) (hm : m ≤ maxLen) : H w0 (vec (some ⟨w.heap.size, 0, none⟩) m m e sz cs :: L) (w.alloc (.cells cs.toArray e)) := by
  have h := hw.alloc cs e
  refine ⟨h.1, ⟨hl, .inr ⟨w.heap.size, m, cs.toArray, rfl, Nat.zero_le _, heap_alloc_new w _, Nat.le_refl _, hm, by simpa using hl, ?_⟩⟩, ?_, ?_, h.2.2.2.2⟩
  · rw [← hl]; simp
  · rintro b ⟨a, ha, rfl⟩
    injection ha with ha
    subst ha
    exact h.2.2.1 _ rfl
  · rintro D hD b ⟨a, ha, rfl⟩ hb
    injection ha with ha
    subst ha
    exact h.2.2.2.1 D hD _ rfl hb
theorem WL1.buildSlice {t e : TypeId} {d m sz : Nat} {parts : Array (Nat × Operand)} {vs : List (Nat × Value)} {z : Value} {cs : List Value} (ho : o.op = .buildSlice t m parts) (hd : o.dst = some d) (ht : P.underlying t = some (.slice e)) (hs : szT P e = some sz)
    (hz : (P.info? e).map (·.zero) = some (some z)) (hp : (parts.map fun (i, x) => (i, (actOf n E).eval x)) = vs.toArray)
    (hf : Instr.fill (fun i => some (i * sz, sz)) ((Array.range (m * sz)).map ((if m * sz = 0 then #[] else z.cells)[· % (if m * sz = 0 then (#[] : Array Value) else z.cells).size]!)) vs = some cs.toArray) (hl : cs.length = m * sz) (hm : m * sz ≤ 16777216 ∧ m ≤ maxLen)
    (h : ∀ b, WL P n w0 ops K rest (E.set d (.slice (some ⟨b, 0, none⟩) m m)) (vec (some ⟨b, 0, none⟩) m m e sz cs :: L)) : WL1 P n w0 ops K o rest E L := fun w hw Q hQ K' hK => by
  cases hi : P.info? e with
  | none => rw [hi] at hz; cases hz
  | some i =>
    rw [hi] at hz
    simp at hz
    unfold Oper.wp execOp
    have hb : ¬ m * sz > 2 ^ 24 := by have := hm.1; simp; omega
    by_cases h0 : m * sz = 0
    · simp only [h0, if_true] at hf
      simp only [ho, Instr.buildSlice, run_underlying ht, run_size hs, Sem.run_bind, Sem.run_pure, Result.andThen_ok, hb, if_false, hp, h0, if_true, hf, newRow, newObj, Sem.run]
      simp only [show ¬ (0 > 2 ^ 24) from by omega, if_false, Sem.run_bind, Sem.run_pure, Result.andThen_ok, hf, Sem.run]
      show K' _ _
      rw [actOf_put, hd]
      exact hK _ _ (h w.heap.size _ (hw.vec_new cs e sz m hl hm.2) Q hQ)
    · simp only [h0, if_false] at hf
      simp only [ho, Instr.buildSlice, run_underlying ht, run_size hs, Sem.run_bind, Sem.run_pure, Result.andThen_ok, hb, if_false, hp, h0, hf, newRow, newObj, Sem.run, zeroValue, typeInfo, program, hi, hz]
      show K' _ _
      rw [actOf_put, hd]
      exact hK _ _ (h w.heap.size _ (hw.vec_new cs e sz m hl hm.2) Q hQ)
end
end Go.Proofs.Ytbofagfilohhfaa
