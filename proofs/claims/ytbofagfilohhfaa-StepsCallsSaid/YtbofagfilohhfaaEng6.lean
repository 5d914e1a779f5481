/- The program logic: literals of slices, whole elements, fields, slices of slices. Over any program. No condition. -/
import Derived.Test.YtbofagfilohhfaaEng5
namespace Go.Proofs.Ytbofagfilohhfaa
set_option maxRecDepth 20000
open Go.RowKit

section
variable {P : Program} {n : Fr} {w0 : World} {ops : Array Oper} {lops : List Oper} {K : Post} {o : Oper} {rest : List Oper} {E : Env} {L : List Asrt} {C : World → Prop} {Q : Exit → Post}
/-! ### Literals -/
theorem put_cells (vs : List Value) : ∀ (cs : Array Value) (off k : Nat), off + k + vs.length ≤ cs.size →
    (vs.zipIdx k).foldl (fun cs (x : Value × Nat) => cs.setIfInBounds (off + x.2) x.1) cs = (cs.toList.take (off + k) ++ vs ++ cs.toList.drop (off + k + vs.length)).toArray := by
  induction vs with
  | nil => intro cs off k _; simp
  | cons v vs ih =>
    intro cs off k h
    simp only [List.length_cons] at h
    rw [List.zipIdx_cons, List.foldl_cons, ih _ off (k + 1) (by simp; omega)]
    have := list_seg_step cs.toList (off + k) v vs (by simp; omega)
    simp only [Array.toList_setIfInBounds, List.length_cons, Nat.add_assoc] at this ⊢
    rw [this]
theorem fill_one {place : Nat → Option (Nat × Nat)} {cs : Array Value} {i off sz : Nat} {v : Value} {rest : List (Nat × Value)} (hp : place i = some (off, sz)) (hv : v.cells.size = sz) (hs : off + sz ≤ cs.size) :
    Instr.fill place cs ((i, v) :: rest) = Instr.fill place (cs.toList.take off ++ v.cells.toList ++ cs.toList.drop (off + sz)).toArray rest := by
  rw [Instr.fill, hp]
  simp only
  rw [if_neg (by simp; omega)]
  congr 1
  have := put_cells v.cells.toList cs off 0 (by simp; omega)
  rw [← Array.foldl_toList, Array.toList_zipIdx]
  simpa [hv] using this
def enum_ : Nat → List Value → List (Nat × Value)
  | _, [] => []
  | i, v :: vs => (i, v) :: enum_ (i + 1) vs
theorem fill_enum {sz : Nat} : ∀ (vs : List Value) (i : Nat) (cs : Array Value), (∀ v ∈ vs, v.cells.size = sz) → cs.size = (i + vs.length) * sz →
    Instr.fill (fun i => some (i * sz, sz)) cs (enum_ i vs) = some (cs.toList.take (i * sz) ++ vs.flatMap fun v => v.cells.toList).toArray
  | [], i, cs, _, hs => by
    have : cs.toList.take (i * sz) = cs.toList := List.take_of_length_le (by simpa using Nat.le_of_eq hs)
    rw [enum_, Instr.fill, this]
    simp
  | v :: vs, i, cs, hv, hs => by
    have hv0 := hv v (by simp)
    have hs' : i * sz + sz + vs.length * sz = cs.size := by rw [hs, List.length_cons]; rw [Nat.add_mul, Nat.succ_mul]; omega
    rw [enum_, fill_one rfl hv0 (by omega), fill_enum vs (i + 1) _ (fun u h => hv u (by simp [h])) (by simp [hv0]; rw [Nat.add_mul, Nat.add_mul, Nat.one_mul]; omega)]
    congr 1
    apply Array.ext'
    simp only [List.flatMap_cons, ← List.append_assoc]
    congr 1
    have h1 : (cs.toList.take (i * sz)).length = i * sz := by simp; omega
    exact List.take_left' (by rw [List.length_append, h1, Nat.succ_mul]; simp [hv0])
inductive EvP (n : Fr) (E : Env) : Nat → List (Nat × Operand) → List Value → Prop
  | nil {i : Nat} : EvP n E i [] []
  | cons {i : Nat} {x : Operand} {v : Value} {xs : List (Nat × Operand)} {vs : List Value} : Ev n E x v → EvP n E (i + 1) xs vs → EvP n E i ((i, x) :: xs) (v :: vs)
theorem EvP.map {i : Nat} {xs : List (Nat × Operand)} {vs : List Value} (h : EvP n E i xs vs) : (xs.map fun (i, x) => (i, (actOf n E).eval x)) = enum_ i vs := by
  induction h with
  | nil => rfl
  | cons h _ ih => rw [List.map_cons, ih]; show (_, _) :: _ = _; rw [show (actOf n E).eval _ = _ from h]; rfl
theorem EvP.len {i : Nat} {xs : List (Nat × Operand)} {vs : List Value} (h : EvP n E i xs vs) : xs.length = vs.length := by induction h <;> simp_all
/-- A literal with all its elements. -/
theorem WL1.lit {t e : TypeId} {d m sz bytes : Nat} {z : Value} {parts : List (Nat × Operand)} {vs : List Value} {cs : List Value} (hE : Elem P t e z sz bytes) (hs : szT P e = some sz) (ho : o.op = .buildSlice t m parts.toArray) (hd : o.dst = some d) (hp : EvP n E 0 parts vs)
    (hm : vs.length = m) (hv : ∀ v ∈ vs, v.cells.size = sz) (hc : (vs.flatMap fun v => v.cells.toList) = cs) (hb : Nat.ble (m * sz) 1000000 = true)
    (h : ∀ b, WL P n w0 ops K rest (E.set d (.slice (some ⟨b, 0, none⟩) m m)) (vec (some ⟨b, 0, none⟩) m m e sz cs :: L)) : WL1 P n w0 ops K o rest E L := by
  subst hm
  have hb' : vs.length * sz ≤ 1000000 := Nat.le_of_ble_eq_true hb
  have hsz := hE.hsz
  have hle : vs.length ≤ vs.length * sz := Nat.le_mul_of_pos_right _ hsz
  have hz : (P.info? e).map (·.zero) = some (some z) := by
    have := hE.hi
    cases hi : P.info? e with
    | none => rw [hi] at this; cases this
    | some i => simp [hi] at this ⊢; exact this.1
  have hlen : ∀ (l : List Value), (∀ v ∈ l, v.cells.size = sz) → (l.flatMap fun v => v.cells.toList).length = l.length * sz := fun l hl => flat_len (enc := fun v : Value => v.cells.toList) (fun v h => by simpa using hl v h)
  refine WL1.buildSlice (vs := enum_ 0 vs) (z := z) ho hd hE.ht hs hz (by rw [List.map_toArray, hp.map]) (cs := cs) ?_ (by rw [← hc, hlen vs hv]) ⟨by omega, by unfold maxLen; omega⟩ h
  rw [fill_enum vs 0 _ hv (by simp), ← hc]
  simp
/-! ### Whole elements -/
/-- In every world of the class the cells from number o behind A on hold cs. -/
def RdR (C : World → Prop) (A : Option Addr) (o : Nat) (cs : List Value) : Prop := ∀ w, C w → ∃ a, A = some a ∧ ∀ j u, cs[j]? = some u → w.cell? (a.add (o + j)) = some u
theorem RdR.of {A : Option Addr} {k : Nat} {cs : List Value} (h0 : ∀ w, C w → A.isSome = true) (h : ∀ j u, cs[j]? = some u → RdC C A (k + j) u) : RdR C A k cs := fun w hw => by
  obtain ⟨a, rfl⟩ := Option.isSome_iff_exists.1 (h0 w hw)
  refine ⟨a, rfl, fun j u hu => ?_⟩
  obtain ⟨a', ha, hc⟩ := h j u hu w hw
  injection ha with ha
  subst ha
  exact hc
def aggT (P : Program) (t : TypeId) : Bool := match P.underlying t with | some (.struct _) => true | some (.array _ _) => true | _ => false
theorem run_isAgg_agg {t : TypeId} (h : aggT P t = true) (w : World) : (isAgg t).run P w = .ok true w := by
  unfold aggT at h
  cases hu : P.underlying t with
  | none => rw [hu] at h; cases h
  | some d => rw [hu] at h; cases d <;> first | (cases h; done) | simp [isAgg, run_underlying hu]
theorem run_loadCells {a : Addr} {w : World} : ∀ (cs : List Value) (i : Nat) (acc : Array Value), (∀ j u, cs[j]? = some u → w.cell? (a.add (i + j)) = some u) → (loadCellsFrom a i cs.length acc).run P w = .ok (acc ++ cs.toArray) w
  | [], i, acc, _ => by simp [loadCellsFrom]
  | v :: cs, i, acc, h => by
    have h0 := h 0 v rfl
    rw [Nat.add_zero] at h0
    rw [List.length_cons, loadCellsFrom]
    simp only [load, Sem.run_bind, Sem.run, h0, Sem.run_pure, Result.andThen_ok]
    rw [run_loadCells cs (i + 1) _ fun j u hu => by rw [Nat.add_assoc, Nat.add_comm 1 j]; exact h (j + 1) u hu]
    congr 1
    apply Array.ext'
    simp
theorem g_loadA {t : TypeId} {x : Operand} {A : Option Addr} {k : Nat} {cs : List Value} (ho : o.op = .load t x) (hx : Ev n E x (cellPtr A k)) (ht : aggT P t = true) (hs : szT P t = some cs.length) (hr : RdR C A k cs) : Gives P n C o E (.agg cs.toArray) := fun w hw => by
  obtain ⟨a, rfl, hc⟩ := hr w hw
  unfold Ev at hx; unfold execOp
  have hl := run_loadCells (P := P) (a := a.add k) (w := w) cs 0 #[] fun j u hu => by rw [Nat.zero_add, addAdd]; exact hc j u hu
  rw [Array.empty_append] at hl
  simp only [ho, hx, cellPtr_some, Instr.loadAt, Instr.sureAddr, Sem.run_bind, Sem.run_pure, Result.andThen_ok, loadVar, run_isAgg_agg ht, if_true, run_size hs, loadCells, hl]
theorem rdr_sl {sz m m' c k : Nat} {A : Option Addr} {xs cs : List Value} (hs : Sl w0 sz (.slice A m c) m' xs) (hm : 0 < m') (h : ∀ j u, cs[j]? = some u → xs[k + j]? = some u) : RdR (H w0 L) A k cs :=
  .of (fun _ _ => sl_some hs hm) fun j u hu => rd_sl hs (h j u hu)
theorem rdr_vec {m c k : Nat} {A : Option Addr} {e : TypeId} {sz : Nat} {xs cs : List Value} (hm : vec A m c e sz xs ∈ L) (h0 : 0 < m) (h : ∀ j u, cs[j]? = some u → xs[k + j]? = some u) : RdR (H w0 L) A k cs :=
  .of (fun _ hw => vec_some hw hm h0) fun j u hu => rd_vec hm (h j u hu)
theorem rdr_pt {b k off : Nat} {e : TypeId} {xs cs : List Value} (hm : pt b e xs ∈ L) (h : ∀ j u, cs[j]? = some u → xs[off + (k + j)]? = some u) : RdR (H w0 L) (some ⟨b, off, none⟩) k cs :=
  .of (fun _ _ => rfl) fun j u hu => rd_pt hm (h j u hu)
/-- Element number k of a row of elements that are sz cells each. -/
theorem flat_row {α : Type} [Inhabited α] {enc : α → List Value} {sz : Nat} {l : List α} {k : Nat} (he : ∀ a ∈ l, (enc a).length = sz) (hk : k < l.length) : ∀ (j : Nat) (u : Value), (enc (nth l k))[j]? = some u → (l.flatMap enc)[k * sz + j]? = some u := fun j u hu => by
  have hm : nth l k ∈ l := by rw [nth_eq hk]; exact List.getElem_mem hk
  have hj : j < sz := by rw [← he _ hm]; exact (List.getElem?_eq_some_iff.1 hu).1
  rw [flat_get he hk hj]; exact hu
def spl (xs : List Value) (k : Nat) (vs : List Value) : List Value := xs.take k ++ vs ++ xs.drop (k + vs.length)
theorem flat_set {α : Type} {enc : α → List Value} {sz : Nat} : ∀ {l : List α} {k : Nat} {v : α}, (∀ a ∈ l, (enc a).length = sz) → (enc v).length = sz → k < l.length → spl (l.flatMap enc) (k * sz) (enc v) = (l.set k v).flatMap enc
  | [], k, v, _, _, h => by simp at h
  | a :: l, k, v, he, hv, hk => by
    have ha := he a (by simp)
    cases k with
    | zero =>
      rw [List.set_cons_zero, List.flatMap_cons, List.flatMap_cons]
      simp [spl, hv, ← ha]
    | succ k =>
      have ih := flat_set (enc := enc) (l := l) (k := k) (v := v) (fun a h => he a (by simp [h])) hv (by simpa using hk)
      rw [List.set_cons_succ, List.flatMap_cons, List.flatMap_cons, ← ih]
      unfold spl
      rw [List.take_append, List.take_of_length_le (by rw [ha, Nat.succ_mul]; omega), List.drop_append, List.drop_of_length_le (by rw [ha, Nat.succ_mul]; omega), ha]
      rw [show (k + 1) * sz - sz = k * sz from by rw [Nat.succ_mul]; omega, show (k + 1) * sz + (enc v).length - sz = k * sz + (enc v).length from by rw [Nat.succ_mul]; omega]
      simp
theorem setRow_pt {w : World} {b off : Nat} {e : TypeId} {cs vs : List Value} (hb : w.heap[b]? = some (.cells cs.toArray e (0, 0))) : (w.setRow b (cs.toArray.toList.take (off + 0) ++ vs ++ cs.toArray.toList.drop (off + 0 + vs.length)).toArray).heap[b]? = some (.cells (spl cs off vs).toArray e (0, 0)) := by
  rw [setRow_heap w b cs.toArray _ e (0, 0) hb]
  simp [spl]
theorem WL1.storeA {t : TypeId} {x y : Operand} {b off k : Nat} {e : TypeId} {cs vs : List Value} {L' : List Asrt} (ho : o.op = .store t x y) (hd : o.dst = none) (hx : Ev n E x (cellPtr (some ⟨b, off, none⟩) k)) (hy : Ev n E y (.agg vs.toArray))
    (ht : szT P t = some vs.length) (hv : ∀ v ∈ vs, v.oneCell' = true) (hk : off + k + vs.length ≤ cs.length) (hs : Swap (pt b e cs) (pt b e (spl cs (off + k) vs)) L L') (h : WL P n w0 ops K rest E L') : WL1 P n w0 ops K o rest E L := fun w hw Q hQ K' hK => by
  have hb : w.heap[b]? = some (.cells cs.toArray e (0, 0)) := (hw.2.in_ _ hs.mem).1
  unfold Ev at hx hy
  unfold Oper.wp execOp
  have hst := run_storeCells_at (P := P) b (off + k) e vs 0 cs.toArray w hb (by simpa using hk) hv
  simp only [ho, hx, hy, cellPtr_some, Instr.storeAt, Instr.sureAddr, Sem.run_bind, Sem.run_pure, Result.andThen_ok, add_off, storeVar, run_size ht, Value.cells, List.size_toArray, ne_eq, not_true, if_false, hst]
  show K' _ _
  rw [actOf_put, hd]
  refine hK _ _ (h _ ?_ Q hQ)
  exact hw.swapped hs (by simp) rfl rfl rfl (fun _ h => h) (fun i hi => setRow_other _ _ _ _ hi) (setRow_pt hb)
/-- The whole block is written. -/
theorem WL1.storeAll {t : TypeId} {x y : Operand} {b : Nat} {e : TypeId} {cs vs : List Value} {L' : List Asrt} (ho : o.op = .store t x y) (hd : o.dst = none) (hx : Ev n E x (cellPtr (some ⟨b, 0, none⟩) 0)) (hy : Ev n E y (.agg vs.toArray)) (ht : szT P t = some vs.length) (hv : ∀ v ∈ vs, v.oneCell' = true) (hl : cs.length = vs.length)
    (hs : Swap (pt b e cs) (pt b e vs) L L') (h : WL P n w0 ops K rest E L') : WL1 P n w0 ops K o rest E L := by
  have e1 : spl cs (0 + 0) vs = vs := by unfold spl; simp [hl]
  exact WL1.storeA (cs := cs) ho hd hx hy ht hv (by omega) (by rw [e1]; exact hs) h
theorem WL1.storeVA {t : TypeId} {x y : Operand} {A : Option Addr} {m c k : Nat} {e : TypeId} {sz : Nat} {xs vs : List Value} {L' : List Asrt} (ho : o.op = .store t x y) (hd : o.dst = none) (hx : Ev n E x (cellPtr A k)) (hy : Ev n E y (.agg vs.toArray))
    (ht : szT P t = some vs.length) (hv : ∀ v ∈ vs, v.oneCell' = true) (h0 : 0 < vs.length) (hk : k + vs.length ≤ xs.length) (hs : Swap (vec A m c e sz xs) (vec A m c e sz (spl xs k vs)) L L') (h : WL P n w0 ops K rest E L') : WL1 P n w0 ops K o rest E L := fun w hw Q hQ K' hK => by
  have hown : w.ownsRow 0 e sz (.slice A m c) m xs := (hw.2.in_ _ hs.mem).1
  rcases hown.2 with ⟨h2, h3⟩ | ⟨g, cap, cur, h2, h3, h4, h5, h6, h7, h8⟩
  · have := hown.1; rw [h3, Nat.zero_mul] at this; omega
  · injection h2 with e1 e2 e3
    subst e1
    have hxl : xs.length ≤ cur.size := by rw [← h8]; simp; omega
    unfold Ev at hx hy
    unfold Oper.wp execOp
    have hst := run_storeCells_at (P := P) g (0 + k) e vs 0 cur w h4 (by omega) hv
    simp only [ho, hx, hy, cellPtr_some, Instr.storeAt, Instr.sureAddr, Sem.run_bind, Sem.run_pure, Result.andThen_ok, add_off, storeVar, run_size ht, Value.cells, List.size_toArray, ne_eq, not_true, if_false, hst]
    show K' _ _
    rw [actOf_put, hd]
    refine hK _ _ (h _ ?_ Q hQ)
    refine hw.swapped hs (by simp) rfl rfl rfl (fun _ h => h) (fun i hi => setRow_other _ _ _ _ fun e => hi ⟨_, rfl, e.symm⟩) ?_
    refine ⟨?_, .inr ⟨g, cap, _, by rw [← e3], h3, setRow_heap w g cur _ e (0, 0) h4, h5, h6, ?_, ?_⟩⟩
    · rw [← hown.1]; simp [spl]; omega
    · simp only [List.size_toArray, List.length_append, List.length_take, List.length_drop, Array.length_toList]; omega
    · rw [← h8]
      have hms : m * sz = xs.length := hown.1.symm
      simp only [spl, Nat.zero_add, Nat.add_zero, List.toList_toArray]
      rw [hms]
      have ht1 : (List.take xs.length cur.toList).take k = cur.toList.take k := by rw [List.take_take, Nat.min_eq_left (by omega)]
      rw [ht1, List.take_append, List.take_append]
      have hl1 : (cur.toList.take k).length = k := by simp; omega
      rw [List.take_of_length_le (l := cur.toList.take k) (by rw [hl1]; omega), hl1]
      rw [List.take_of_length_le (l := vs) (by omega), List.length_append, hl1, List.drop_take]
/-! ### Slices of slices -/
def subA (A : Option Addr) (c l sz : Nat) : Option Addr := if c = l then A else A.map (·.add (l * sz))
theorem Sl.sub {w : World} {sz m c l h : Nat} {A : Option Addr} {xs : List Value} (hs : Sl w sz (.slice A m c) m xs) (hl : l ≤ h) (hh : h ≤ m) : Sl w sz (.slice (subA A c l sz) (h - l) (c - l)) (h - l) ((xs.drop (l * sz)).take ((h - l) * sz)) := by
  obtain ⟨h1, A', c', h2, h3, h4, h5⟩ := hs
  injection h2 with e1 e2 e3
  subst e1; subst e3
  have h1' : h * sz ≤ m * sz := Nat.mul_le_mul_right _ hh
  have h2' : (h - l) * sz = h * sz - l * sz := Nat.sub_mul _ _ _
  refine ⟨by simp; omega, _, _, rfl, by omega, Nat.le_trans (Nat.sub_le _ _) h4, fun hn => ?_⟩
  obtain ⟨ad, rfl, hb, hc⟩ := h5 (by omega)
  have hne : c ≠ l := by omega
  refine ⟨ad.add (l * sz), by simp [subA, hne], by rw [addBlock]; exact hb, fun j u hu => ?_⟩
  rw [addAdd]
  apply hc
  rw [List.getElem?_take] at hu
  split at hu
  · rw [List.getElem?_drop] at hu; exact hu
  · cases hu
theorem g_slice {t e : TypeId} {x : Operand} {lo hi : Option Operand} {A : Option Addr} {m c l h sz : Nat} {kl kh : IntKind} {p q : Int} (ho : o.op = .slice t x lo hi none) (hx : Ev n E x (.slice A m c)) (ht : P.underlying t = some (.slice e)) (hs : szT P e = some sz)
    (hlo : match lo with | none => l = 0 | some y => Ev n E y (.int kl p) ∧ p = (l : Int)) (hhi : match hi with | none => h = m | some y => Ev n E y (.int kh q) ∧ q = (h : Int)) (hlh : l ≤ h) (hhc : h ≤ c) : Gives P n C o E (.slice (subA A c l sz) (h - l) (c - l)) := fun w hw => by
  unfold Ev at *; unfold execOp
  cases lo with
  | none =>
    simp only at hlo
    cases hi with
    | none =>
      simp only at hhi
      subst hlo; subst hhi
      simp [ho, hx, Instr.sliceAt, Instr.slice, run_underlying ht, Instr.sliceBounds, run_size hs, subA]
    | some y =>
      obtain ⟨hy, rfl⟩ := hhi
      subst hlo
      simp [ho, hx, hy, Instr.sliceAt, Instr.slice, run_underlying ht, Instr.sliceBounds, Instr.sliceBound, asIntOf, run_size hs, subA, hhc]
  | some y =>
    obtain ⟨hy, rfl⟩ := hlo
    have hlc : (l : Int) ≤ (h : Int) := by omega
    cases hi with
    | none =>
      simp only at hhi
      subst hhi
      simp [ho, hx, hy, Instr.sliceAt, Instr.slice, run_underlying ht, Instr.sliceBounds, Instr.sliceBound, asIntOf, run_size hs, subA, hlh]
    | some y' =>
      obtain ⟨hy', rfl⟩ := hhi
      simp [ho, hx, hy, hy', Instr.sliceAt, Instr.slice, run_underlying ht, Instr.sliceBounds, Instr.sliceBound, asIntOf, run_size hs, subA, hhc, hlh]
/-! ### Aggregates by value -/
def fldT (P : Program) (t : TypeId) (f : Nat) : Option Nat :=
  match P.underlying t with
  | some (.struct fs) => (fs[f]?).bind fun fd => if oneT P fd.type then some fd.offset else none
  | _ => none
theorem g_field {t : TypeId} {x : Operand} {f off : Nat} {cs : Array Value} {u : Value} (ho : o.op = .field t x f) (hx : Ev n E x (.agg cs)) (hf : fldT P t f = some off) (hu : cs[off]? = some u) : Gives P n C o E u := fun w hw => by
  unfold Ev at hx; unfold execOp
  unfold fldT at hf
  cases hd : P.underlying t with
  | none => rw [hd] at hf; cases hf
  | some d =>
    rw [hd] at hf
    cases d with
    | struct fs =>
      simp only at hf
      cases hfd : fs[f]? with
      | none => rw [hfd] at hf; cases hf
      | some fd =>
        rw [hfd, Option.bind_some] at hf
        cases h1 : oneT P fd.type with
        | false => rw [h1] at hf; cases hf
        | true =>
          rw [h1] at hf
          injection hf with hf
          simp [ho, hx, Instr.field, run_underlying hd, hfd, part, asAgg, run_isAgg_one h1, hf, hu]
    | _ => cases hf
/-- A struct all of whose fields take one cell each, in their order. -/
def flatT (P : Program) (t : TypeId) (k : Nat) : Bool :=
  match P.underlying t with
  | some (.struct fs) => fs.size == k && (List.range k).all fun i => match fs[i]? with | some fd => fd.offset == i && szT P fd.type == some 1 | none => false
  | _ => false
def setL (cs : List Value) : List (Nat × Value) → List Value
  | [] => cs
  | (i, v) :: vs => setL (cs.set i v) vs
inductive EvI (n : Fr) (E : Env) : List (Nat × Operand) → List (Nat × Value) → Prop
  | nil : EvI n E [] []
  | cons {i : Nat} {x : Operand} {v : Value} {xs : List (Nat × Operand)} {vs : List (Nat × Value)} : Ev n E x v → EvI n E xs vs → EvI n E ((i, x) :: xs) ((i, v) :: vs)
theorem EvI.map {xs : List (Nat × Operand)} {vs : List (Nat × Value)} (h : EvI n E xs vs) : (xs.map fun (i, x) => (i, (actOf n E).eval x)) = vs := by
  induction h with
  | nil => rfl
  | cons h _ ih => rw [List.map_cons, ih]; show (_, _) :: _ = _; rw [show (actOf n E).eval _ = _ from h]
theorem fill_set {place : Nat → Option (Nat × Nat)} : ∀ (vs : List (Nat × Value)) (cs : List Value), (∀ p ∈ vs, place p.1 = some (p.1, 1) ∧ p.1 < cs.length ∧ p.2.oneCell' = true) → Instr.fill place cs.toArray vs = some (setL cs vs).toArray
  | [], cs, _ => by simp [Instr.fill, setL]
  | (i, v) :: vs, cs, h => by
    obtain ⟨h1, h2, h3⟩ := h (i, v) (by simp)
    have hv : v.cells = #[v] := by cases v <;> first | (cases h3; done) | rfl
    rw [fill_one (sz := 1) h1 (by rw [hv]; rfl) (by simp; omega), hv, setL]
    have hset : (cs.toArray.toList.take i ++ #[v].toList ++ cs.toArray.toList.drop (i + 1)).toArray = (cs.set i v).toArray := by
      congr 1
      rw [List.set_eq_take_append_cons_drop, if_pos h2]; simp
    rw [hset]
    exact fill_set vs (cs.set i v) fun p hp => by obtain ⟨a, b, c⟩ := h p (by simp [hp]); exact ⟨a, by simpa using b, c⟩
theorem run_places {fs : Array Field} {w : World} {k : Nat} (hk : fs.size = k) (h : ∀ i, i < k → ∃ fd, fs[i]? = some fd ∧ fd.offset = i ∧ szT P fd.type = some 1) :
    ∃ pl : Array (Nat × Nat), (fs.mapM (fun f => do pure (f.offset, ← sizeOf f.type) : Field → Sem (Nat × Nat))).run P w = .ok pl w ∧ ∀ i, i < k → pl[i]? = some (i, 1) := by
  have key : ∀ (l : List Field), (∀ f ∈ l, szT P f.type = some 1) → (l.mapM (fun f => do pure (f.offset, ← sizeOf f.type) : Field → Sem (Nat × Nat))).run P w = .ok (l.map fun f => (f.offset, 1)) w := by
    intro l
    induction l with
    | nil => intro _; rfl
    | cons f l ih =>
      intro hl
      rw [List.mapM_cons]
      simp only [Sem.run_bind, run_size (hl f (by simp)), Result.andThen_ok, Sem.run_pure, ih fun g hg => hl g (by simp [hg]), List.map_cons]
  refine ⟨(fs.toList.map fun f => (f.offset, 1)).toArray, ?_, fun i hi => ?_⟩
  · rw [Array.mapM_eq_mapM_toList]
    have := key fs.toList fun f hf => by
      obtain ⟨i, hi, rfl⟩ := List.getElem_of_mem hf
      obtain ⟨fd, h1, _, h3⟩ := h i (by rw [← hk]; simpa using hi)
      have : fs[i]? = some fs.toList[i] := by simp at hi ⊢
      rw [this] at h1
      injection h1 with h1
      rw [h1]; exact h3
    rw [← bind_pure_comp]
    simp only [Sem.run_bind, this, Result.andThen_ok, Sem.run_pure]
  · obtain ⟨fd, h1, h2, _⟩ := h i hi
    have : fs.toList[i]? = some fd := by simpa using h1
    simp [this, h2]
theorem g_build {t : TypeId} {k : Nat} {parts : List (Nat × Operand)} {vs : List (Nat × Value)} {z : Value} {zs cs : List Value} (ho : o.op = .build t parts.toArray) (hf : flatT P t k = true) (hz : (P.info? t).map (·.zero) = some (some z)) (hzs : z.cells = zs.toArray)
    (hp : EvI n E parts vs) (hok : (vs.all fun p => Nat.blt p.1 k && p.2.oneCell') = true) (hk : zs.length = k) (hr : setL zs vs = cs) : Gives P n C o E (.agg cs.toArray) := fun w _ => by
  subst hr
  unfold flatT at hf
  cases hu : P.underlying t with
  | none => rw [hu] at hf; cases hf
  | some d =>
    rw [hu] at hf
    cases d with
    | struct fs =>
      simp only [Bool.and_eq_true, beq_iff_eq, List.all_eq_true, List.mem_range] at hf
      obtain ⟨pl, hpl, hpl2⟩ := run_places (P := P) (w := w) hf.1 fun i hi => by
        have := hf.2 i hi
        cases hfd : fs[i]? with
        | none => rw [hfd] at this; cases this
        | some fd => rw [hfd] at this; simp at this; exact ⟨fd, rfl, this⟩
      cases hi : P.info? t with
      | none => rw [hi] at hz; cases hz
      | some i =>
        rw [hi] at hz
        simp at hz
        have hfill := fill_set (place := fun j => pl[j]?) vs zs fun p hp => by
          have := List.all_eq_true.1 hok p hp
          simp only [Bool.and_eq_true] at this
          have h2 : p.1 < k := Nat.lt_of_not_le (fun h4 => by have h1 := this.1; rw [Nat.blt] at h1; have := Nat.le_of_ble_eq_true h1; omega)
          exact ⟨hpl2 _ h2, by omega, this.2⟩
        have hm : (parts.toArray.map fun (i, x) => (i, (actOf n E).eval x)) = vs.toArray := by rw [List.map_toArray, hp.map]
        unfold execOp
        simp only [ho, hm, Instr.build, zeroValue, typeInfo, program, Sem.run_bind, Sem.run, Sem.run_pure, Result.andThen_ok, hi, hz, run_underlying hu, hpl, hzs, List.toList_toArray, hfill]
    | _ => cases hf
theorem g_buildArr {t e : TypeId} {m k : Nat} {parts : List (Nat × Operand)} {vs : List (Nat × Value)} {z : Value} {zs cs : List Value} (ho : o.op = .build t parts.toArray) (ht : P.underlying t = some (.array m e)) (he : szT P e = some 1) (hz : (P.info? t).map (·.zero) = some (some z)) (hzs : z.cells = zs.toArray)
    (hp : EvI n E parts vs) (hok : (vs.all fun p => Nat.blt p.1 k && p.2.oneCell') = true) (hk : zs.length = k) (hr : setL zs vs = cs) : Gives P n C o E (.agg cs.toArray) := fun w _ => by
  subst hr
  cases hi : P.info? t with
  | none => rw [hi] at hz; cases hz
  | some i =>
    rw [hi] at hz
    simp at hz
    have hfill := fill_set (place := fun j => some (j * 1, 1)) vs zs fun p hp => by
      have := List.all_eq_true.1 hok p hp
      simp only [Bool.and_eq_true] at this
      have h2 : p.1 < k := Nat.lt_of_not_le (fun h4 => by have h1 := this.1; rw [Nat.blt] at h1; have := Nat.le_of_ble_eq_true h1; omega)
      exact ⟨by rw [Nat.mul_one], by omega, this.2⟩
    have hm : (parts.toArray.map fun (i, x) => (i, (actOf n E).eval x)) = vs.toArray := by rw [List.map_toArray, hp.map]
    unfold execOp
    simp only [ho, hm, Instr.build, zeroValue, typeInfo, program, Sem.run_bind, Sem.run, Sem.run_pure, Result.andThen_ok, hi, hz, run_underlying ht, run_size he, hzs, List.toList_toArray, hfill]
theorem g_indexA {t e : TypeId} {x y : Operand} {cs : Array Value} {m j : Nat} {kk : IntKind} {z : Int} {u : Value} (ho : o.op = .index t x y) (hx : Ev n E x (.agg cs)) (hy : Ev n E y (.int kk z)) (ht : P.underlying t = some (.array m e)) (h1 : oneT P e = true) (hs : szT P e = some 1)
    (hz : z = (j : Int)) (hj : j < m) (hu : cs[j]? = some u) : Gives P n C o E u := fun w hw => by
  unfold Ev at hx hy; unfold execOp
  have hb : (0 : Int) ≤ z ∧ z < (m : Int) := by omega
  simp [ho, hx, hy, Instr.index, asIntOf, run_underlying ht, run_size hs, part, run_isAgg_one h1, hz, hu, hj]
end
end Go.Proofs.Ytbofagfilohhfaa
