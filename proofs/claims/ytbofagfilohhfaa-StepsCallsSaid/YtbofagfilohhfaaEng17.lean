/- The program logic: calls of interface methods; one of many blocks; slices with three bounds; appending in place; clear. Over any program. No condition. -/
import Derived.Test.YtbofagfilohhfaaEng15
import Derived.Deep.AppendSrc
import Derived.Deep.Upon
import Derived.Laws.CopyRow
import Derived.Lib.SliceRun
namespace Go.Proofs.Ytbofagfilohhfaa
set_option maxRecDepth 20000
open Go.RowKit
section
variable {P : Program} {n : Fr} {w0 : World} {ops : Array Oper} {K : Post} {o : Oper} {rest : List Oper} {E : Env} {L : List Asrt}
/-- A method with a pointer receiver, of the type's own. -/
def methT (P : Program) (t : TypeId) (name : String) : Option FuncId :=
  match P.info? t, P.underlying t with
  | some i, some (.pointer _) => match i.methods.find? (·.name == name) with
    | some m => if m.path.isEmpty then match m.func with | some (f, true) => some f | _ => none else none
    | none => none
  | _, _ => none
theorem run_method {fuel : Nat} {t : TypeId} {v : Value} {name : String} {f : FuncId} (h : methT P t name = some f) (w : World) : (method (fuel + 1) t v name).run P w = .ok (f, v) w := by
  unfold methT at h
  cases hi : P.info? t with
  | none => rw [hi] at h; cases h
  | some i =>
    rw [hi] at h
    cases hu : P.underlying t with
    | none => rw [hu] at h; cases h
    | some u =>
      rw [hu] at h
      cases u with
      | pointer e =>
        simp only at h
        cases hm : i.methods.find? (·.name == name) with
        | none => rw [hm] at h; cases h
        | some m =>
          rw [hm] at h
          simp only at h
          by_cases hp : m.path.isEmpty = true
          · rw [if_pos hp] at h
            cases hf : m.func with
            | none => rw [hf] at h; cases h
            | some fp =>
              obtain ⟨f', p⟩ := fp
              rw [hf] at h
              cases p with
              | false => cases h
              | true =>
                simp only [Option.some.injEq] at h
                subst h
                have hpe : m.path = #[] := by simpa using hp
                unfold method
                simp [typeInfo, hi, hm, hf, hpe, follow, receiverAt, run_underlying hu, Place.get]
          · rw [if_neg hp] at h; cases h
      | _ => cases h
/-- A call of an interface's method. -/
theorem WL1.invokeF {x : Operand} {name : String} {args : List Operand} {ts : Array TypeId} {d : Option Tmp} {t : TypeId} {rv : Value} {f : FuncId} {vals : List Value} {Φ : Value → List Asrt → Prop}
    (ho : o.op = .call { callee := .invoke x name, args := args.toArray, argTypes := ts }) (hd : o.dst = d) (hx : Ev n E x (.iface t rv)) (hm : methT P t name = some f) (hc : callable P f = true) (hv : Evs n E args vals)
    (h : ∀ w, H w0 L w → Calls P f (rv :: vals).toArray w fun e w' => ∃ v L', e = .returned v ∧ H w0 L' w' ∧ Φ v L') (k : ∀ v L', Φ v L' → WL P n w0 ops K rest (E.put d v) L') : WL1 P n w0 ops K o rest E L := fun w hw Q hQ K' hK => by
  unfold Ev at hx
  unfold Oper.wp execOp
  have hm' : args.toArray.map (actOf n E).eval = vals.toArray := by rw [List.map_toArray, hv.map]
  simp only [ho, resolve, hx, Sem.run_bind, Sem.run_pure, Result.andThen_ok]
  rw [hm']
  have h1 : (#[Value.iface t rv] ++ vals.toArray)[0]? = some (Value.iface t rv) := by simp
  have h2 : (#[Value.iface t rv] ++ vals.toArray).extract 1 (#[Value.iface t rv] ++ vals.toArray).size = vals.toArray := by simp
  have h3 : #[rv] ++ vals.toArray = (rv :: vals).toArray := by simp
  have hd0 : 0 < Made.depth := by decide
  obtain ⟨q, hq⟩ : ∃ q, P.types.size + Made.depth = q + 1 := ⟨P.types.size + Made.depth - 1, by omega⟩
  simp only [invoke, h1, h2, callMethod, program, Sem.run, Sem.run_bind, Sem.run_pure, Result.andThen_ok, hq, run_method hm, h3, run_callFunc hc, Oper.upon_enter]
  refine (h w hw).mono ?_
  rintro e w' ⟨v, L', rfl, hH, hΦ⟩
  show K' _ _
  rw [actOf_put, hd]
  exact hK _ _ (k v L' hΦ w' hH Q hQ)
end
/-! ### One of many blocks -/
theorem perm_at {α : Type} : ∀ {M : List α} {k : Nat} (hk : k < M.length), M.Perm (M[k] :: M.eraseIdx k)
  | a :: M, 0, _ => List.Perm.refl _
  | a :: M, k + 1, h => by
    have := perm_at (M := M) (k := k) (by simpa using h)
    exact (this.cons a).trans (List.Perm.swap _ _ _)
theorem perm_set {α : Type} {a : α} : ∀ {M : List α} {k : Nat}, k < M.length → (a :: M.eraseIdx k).Perm (M.set k a)
  | b :: M, 0, _ => List.Perm.refl _
  | b :: M, k + 1, h => by
    have := perm_set (a := a) (M := M) (k := k) (by simpa using h)
    exact (List.Perm.swap _ _ _).trans (this.cons b)
theorem Imp.out {M L : List Asrt} {k : Nat} (hk : k < M.length) : Imp (Go.Proofs.Ytbofagfilohhfaa.bun M :: L) (M[k] :: Go.Proofs.Ytbofagfilohhfaa.bun (M.eraseIdx k) :: L) := by
  have h1 : Imp (Go.Proofs.Ytbofagfilohhfaa.bun M :: L) (M ++ L) := Imp.unbun M L
  have h2 : Imp (M ++ L) ((M[k] :: M.eraseIdx k) ++ L) := Imp.perm ((perm_at hk).append_right L)
  exact (h1.trans h2).trans (Imp.cons (Imp.bun (M.eraseIdx k) L))
theorem Imp.back {M L : List Asrt} {A : Asrt} {k : Nat} (hk : k < M.length) : Imp (A :: Go.Proofs.Ytbofagfilohhfaa.bun (M.eraseIdx k) :: L) (Go.Proofs.Ytbofagfilohhfaa.bun (M.set k A) :: L) := by
  have h1 : Imp (A :: Go.Proofs.Ytbofagfilohhfaa.bun (M.eraseIdx k) :: L) (A :: (M.eraseIdx k ++ L)) := Imp.cons (Imp.unbun _ L)
  have h2 : Imp ((A :: M.eraseIdx k) ++ L) (M.set k A ++ L) := Imp.perm ((perm_set hk).append_right L)
  exact (h1.trans h2).trans (Imp.bun _ L)
theorem Imp.new {M L : List Asrt} {A : Asrt} : Imp (A :: Go.Proofs.Ytbofagfilohhfaa.bun M :: L) (Go.Proofs.Ytbofagfilohhfaa.bun (M ++ [A]) :: L) := by
  have h1 : Imp (A :: Go.Proofs.Ytbofagfilohhfaa.bun M :: L) (A :: (M ++ L)) := Imp.cons (Imp.unbun _ L)
  have h2 : Imp ((A :: M) ++ L) ((M ++ [A]) ++ L) := Imp.perm ((List.perm_append_singleton A M).symm.append_right L)
  exact (h1.trans h2).trans (Imp.bun _ L)
theorem Imp.none {L : List Asrt} : Imp L (Go.Proofs.Ytbofagfilohhfaa.bun [] :: L) := Imp.bun [] L
theorem sep_mem {B : Nat} {w : World} {M : List Asrt} (h : Sep B w M) {D : Asrt} (hD : D ∈ M) : D.ok w := (h.in_ D hD).1
/-- Out of a bundle a cell is read. -/
theorem rd_bun {w0 : World} {L M : List Asrt} {b k off : Nat} {e : TypeId} {cs : List Value} {u : Value} (hm : bun M ∈ L) (hb : pt b e cs ∈ M) (hu : cs[off + k]? = some u) : RdC (H w0 L) (some ⟨b, off, none⟩) k u := fun w hw => by
  have h1 : Sep 0 w M := (hw.2.in_ _ hm).1
  have h2 : w.heap[b]? = some (.cells cs.toArray e (0, 0)) := sep_mem h1 hb
  exact ⟨⟨b, off, none⟩, rfl, by rw [add_off, cell_of_block h2]; exact hu⟩
/-! ### Rows as blocks -/
theorem vec_pt {w0 w : World} {L : List Asrt} {A : Option Addr} {m c sz : Nat} {e : TypeId} {xs : List Value} (hw : H w0 (vec A m c e sz xs :: L) w) (h0 : 0 < m) : ∃ g cur, A = some ⟨g, 0, none⟩ ∧ cur.length = c * sz ∧ m ≤ c ∧ c ≤ maxLen ∧ cur.take (m * sz) = xs ∧ H w0 (pt g e cur :: L) w := by
  obtain ⟨hB, hown, hft, hdis, hrest⟩ := hw
  have hown' : w.ownsRow 0 e sz (.slice A m c) m xs := hown
  rcases hown'.2 with ⟨h2, h3⟩ | ⟨g, cap, cur, h2, _, h4, h5, h6, h7, h8⟩
  · omega
  · injection h2 with e1 e2 e3
    subst e1; subst e3
    refine ⟨g, cur.toList, rfl, by simpa using h7, h5, h6, h8, hB, h4, fun b hb => ?_, fun C hC b hb hc => ?_, hrest⟩
    · have : b = g := hb
      subst this
      exact hft _ ⟨_, rfl, rfl⟩
    · have : b = g := hb
      subst this
      exact hdis C hC _ ⟨_, rfl, rfl⟩ hc
theorem Imp.ptvec {L : List Asrt} {g m c sz : Nat} {e : TypeId} {cur : List Value} (hl : cur.length = c * sz) (hm : m ≤ c) (hc : c ≤ maxLen) : Imp (pt g e cur :: L) (vec (some ⟨g, 0, Option.none⟩) m c e sz (cur.take (m * sz)) :: L) where
  foot D hD b hb := by
    rcases List.mem_cons.1 hD with rfl | hD
    · obtain ⟨a, ha, rfl⟩ := hb
      injection ha with ha
      subst ha
      exact ⟨_, .head _, rfl⟩
    · exact ⟨D, .tail _ hD, hb⟩
  sep := fun ⟨h1, h2, h3, h4⟩ => by
    have hmul : m * sz ≤ c * sz := Nat.mul_le_mul_right sz hm
    refine ⟨⟨by rw [List.length_take]; omega, .inr ⟨g, c, cur.toArray, rfl, Nat.zero_le _, h1, hm, hc, by simpa using hl, rfl⟩⟩, ?_, ?_, h4⟩
    · rintro b ⟨a, ha, rfl⟩
      injection ha with ha
      subst ha
      exact h2 _ rfl
    · rintro C hC b ⟨a, ha, rfl⟩ hb
      injection ha with ha
      subst ha
      exact h3 C hC _ rfl hb
section
variable {P : Program} {n : Fr} {w0 : World} {ops : Array Oper} {K : Post} {o : Oper} {rest : List Oper} {E : Env} {L : List Asrt} {C : World → Prop}
/-- A slice with three bounds. -/
theorem g_slice3 {t e : TypeId} {x y1 y2 y3 : Operand} {A : Option Addr} {m c l h q sz : Nat} {k1 k2 k3 : IntKind} {p1 p2 p3 : Int} (ho : o.op = .slice t x (some y1) (some y2) (some y3)) (hx : Ev n E x (.slice A m c)) (ht : P.underlying t = some (.slice e)) (hs : szT P e = some sz)
    (h1 : Ev n E y1 (.int k1 p1)) (h2 : Ev n E y2 (.int k2 p2)) (h3 : Ev n E y3 (.int k3 p3)) (e1 : p1 = (l : Int)) (e2 : p2 = (h : Int)) (e3 : p3 = (q : Int)) (hlh : l ≤ h) (hhq : h ≤ q) (hqc : q ≤ c) : Gives P n C o E (.slice (subA A q l sz) (h - l) (q - l)) := fun w hw => by
  unfold Ev at *; unfold execOp
  subst e1; subst e2; subst e3
  simp [ho, hx, h1, h2, h3, Instr.sliceAt, Instr.slice, run_underlying ht, Instr.sliceBounds, Instr.sliceBound, asIntOf, run_size hs, subA, hlh, hhq, hqc]
theorem run_append_in {t e : TypeId} {z : Value} {bytes g i c k c2 : Nat} {ad : Addr} {cur news : List Value} {w : World} (ty : TypeId) (hE : Elem P t e z 1 bytes) (hb : w.heap[g]? = some (.cells cur.toArray e (0, 0))) (hnl : news.length = k) (hread : ∀ j u, news[j]? = some u → w.cell? (ad.add j) = some u)
    (h1 : ∀ u ∈ news, u.oneCell' = true) (hroom : i + k ≤ c) (hl : cur.length = c) :
    (Builtin.append_ #[t, t] ty #[.slice (some ⟨g, 0, none⟩) i c, .slice (some ad) k c2]).run P w = .ok (.slice (some ⟨g, 0, none⟩) (i + k) c) (w.setRow g (cur.toArray.toList.take (i + 0) ++ news ++ cur.toArray.toList.drop (i + 0 + news.length)).toArray) := by
  obtain ⟨ht, hi0, hzs, _⟩ := hE
  obtain ⟨inf, hi, hsz⟩ : ∃ inf, P.info? e = some inf ∧ inf.size = 1 := by
    cases hi : P.info? e with
    | none => rw [hi] at hi0; cases hi0
    | some inf => rw [hi] at hi0; simp at hi0; exact ⟨inf, rfl, hi0.2.1⟩
  have hs := Src.ofSlice (P := P) w (size := 1) ht ad k c2 news (by rw [hnl, Nat.mul_one]) hread h1
  have hst := run_storeCells_at (P := P) g i e news 0 cur.toArray w hb (by rw [hnl]; simp; omega) h1
  simp [Builtin.append_, run_underlying ht, sizeOf, typeInfo, hi, hsz, hs.len, hroom, hs.cells, Addr.add_lit] at hst ⊢
  simp [hst]
/-- Appending in place. -/
theorem WL1.appendPt {t e : TypeId} {x y : Operand} {d g i c k bytes : Nat} {z src : Value} {cur news : List Value} {L1 : List Asrt} (hE : Elem P t e z 1 bytes)
    (ho : o.op = .call { callee := .builtin .append, args := #[x, y], argTypes := #[t, t] }) (hd : o.dst = some d) (hx : Ev n E x (.slice (some ⟨g, 0, none⟩) i c)) (hy : Ev n E y src)
    (hsl : ∀ w, H w0 L w → Sl w 1 src k news) (h1 : ∀ u ∈ news, u.oneCell' = true) (hroom : i + k ≤ c) (hl : cur.length = c) (hs : Swap (pt g e cur) (pt g e (spl cur i news)) L L1)
    (h : WL P n w0 ops K rest (E.set d (.slice (some ⟨g, 0, none⟩) (i + k) c)) L1) : WL1 P n w0 ops K o rest E L := fun w hw Q hQ K' hK => by
  obtain ⟨hnl, A, c2, hsrc, hkc, _, hcells⟩ := hsl w hw
  subst hsrc
  rw [Nat.mul_one] at hnl
  have hb : w.heap[g]? = some (.cells cur.toArray e (0, 0)) := (hw.2.in_ _ hs.mem).1
  unfold Ev at hx hy
  unfold Oper.wp execOp
  by_cases h0 : 0 < k
  · obtain ⟨ad, rfl, _, hread⟩ := hcells h0
    have hrun := run_append_in o.type hE hb hnl hread h1 hroom hl (c2 := c2)
    simp only [ho, resolve, invoke, builtin, Sem.run_bind, Sem.run_pure, Result.andThen_ok, List.map_toArray, List.map_cons, List.map_nil, hx, hy, hrun]
    show K' _ _
    rw [actOf_put, hd]
    refine hK _ _ (h _ ?_ Q hQ)
    exact hw.swapped hs (by simp) rfl rfl rfl (fun _ h => h) (fun i hi => setRow_other _ _ _ _ hi) (setRow_pt hb)
  · have hk0 : k = 0 := by omega
    subst hk0
    have hne : news = [] := List.eq_nil_of_length_eq_zero hnl
    subst hne
    obtain ⟨inf, hi, hsz⟩ : ∃ inf, P.info? e = some inf ∧ inf.size = 1 := by
      have hi0 := hE.hi
      cases hi : P.info? e with
      | none => rw [hi] at hi0; cases hi0
      | some inf => rw [hi] at hi0; simp at hi0; exact ⟨inf, rfl, hi0.2.1⟩
    have hsr : Src P inf.size t (.slice A 0 c2) 0 [] w := by
      rw [hsz]
      cases A with
      | none => exact Src.ofNil w hE.ht c2
      | some ad => exact Src.ofSlice w hE.ht ad 0 c2 [] (by simp) (fun j u h => by simp at h) (fun _ h => by cases h)
    have hrun := run_append_nothing (P := P) w t t o.type e inf hE.ht hi (some ⟨g, 0, none⟩) i c (by omega) (.slice A 0 c2) hsr
    simp only [ho, resolve, invoke, builtin, Sem.run_bind, Sem.run_pure, Result.andThen_ok, List.map_toArray, List.map_cons, List.map_nil, hx, hy, hrun]
    show K' _ _
    rw [actOf_put, hd]
    have e1 : spl cur i [] = cur := by unfold spl; simp
    rw [e1] at hs
    exact hK _ _ (h _ (hw.swapped hs rfl rfl rfl rfl (fun _ h => h) (fun _ _ => rfl) hb) Q hQ)
/-- The cells of a slice are cleared. -/
theorem WL1.clearPt {t e : TypeId} {x : Operand} {g off c k bytes : Nat} {z : Value} {cur : List Value} {L1 : List Asrt} (hE : Elem P t e z 1 bytes) (hz1 : z.cells = #[z]) (hzo : z.oneCell' = true)
    (ho : o.op = .call { callee := .builtin .clear, args := #[x], argTypes := #[t] }) (hd : o.dst = none) (hx : Ev n E x (.slice (some ⟨g, off, none⟩) k c)) (h0 : 0 < k) (hl : off + k ≤ cur.length) (hs : Swap (pt g e cur) (pt g e (spl cur off (List.replicate k z))) L L1)
    (h : WL P n w0 ops K rest E L1) : WL1 P n w0 ops K o rest E L := fun w hw Q hQ K' hK => by
  have hb : w.heap[g]? = some (.cells cur.toArray e (0, 0)) := (hw.2.in_ _ hs.mem).1
  have hz0 : (P.info? e).map (·.zero) = some (some z) := by
    have hi0 := hE.hi
    cases hi : P.info? e with
    | none => rw [hi] at hi0; cases hi0
    | some inf => rw [hi] at hi0; simp at hi0; simp [hi0.1]
  have hv : ∀ w, (zeroValue e).run P w = .ok z w := fun w => by
    cases hi : P.info? e with
    | none => rw [hi] at hz0; cases hz0
    | some i =>
      rw [hi] at hz0
      have hz : i.zero = some z := by simpa using hz0
      simp [zeroValue, typeInfo, hi, hz]
  have hzc : (Builtin.zeroCells z.cells k).toList = List.replicate k z := by
    rw [hz1]
    simp [Builtin.zeroCells]
    apply List.ext_getElem
    · simp
    · intro i h1 h2
      simp [Nat.mod_one]
  have hst := run_storeCells_at (P := P) g off e (List.replicate k z) 0 cur.toArray w hb (by simp; omega) (by intro v hv'; rw [List.eq_of_mem_replicate hv']; exact hzo)
  have hrun : (Builtin.clear_ #[t] o.type #[.slice (some ⟨g, off, none⟩) k c]).run P w = .ok (.tuple #[]) (w.setRow g (cur.toArray.toList.take (off + 0) ++ List.replicate k z ++ cur.toArray.toList.drop (off + 0 + (List.replicate k z).length)).toArray) := by
    obtain ⟨q, rfl⟩ : ∃ q, k = q + 1 := ⟨k - 1, by omega⟩
    simp [Builtin.clear_, run_underlying hE.ht, hv, hzc] at hst ⊢
    simp [hst]
  unfold Ev at hx
  unfold Oper.wp execOp
  simp only [ho, resolve, invoke, builtin, Sem.run_bind, Sem.run_pure, Result.andThen_ok, List.map_toArray, List.map_cons, List.map_nil, hx, hrun]
  show K' _ _
  rw [actOf_put, hd]
  refine hK _ _ (h _ ?_ Q hQ)
  exact hw.swapped hs (by simp) rfl rfl rfl (fun _ h => h) (fun i hi => setRow_other _ _ _ _ hi) (setRow_pt hb)
end
section
variable {P : Program} {n : Fr} {C : World → Prop} {o : Oper} {E : Env}
/-- A value in an interface. -/
def concT (P : Program) (t : TypeId) : Bool := match P.underlying t with | some (.interface _) => false | some _ => true | none => false
theorem g_mkIface {t : TypeId} {x : Operand} {v : Value} (ho : o.op = .makeInterface t x) (hx : Ev n E x v) (ht : concT P t = true) : Gives P n C o E (.iface t v) := fun w _ => by
  unfold concT at ht
  unfold Ev at hx; unfold execOp
  cases hu : P.underlying t with
  | none => rw [hu] at ht; cases ht
  | some u =>
    rw [hu] at ht
    cases u <;> first | (cases ht; done) | simp [ho, hx, Instr.makeInterface, run_underlying hu]
def ifaceT (P : Program) (t : TypeId) : Bool := match P.underlying t with | some (.interface _) => true | _ => false
theorem ifaceT_spec {t : TypeId} (h : ifaceT P t = true) : ∃ ms, P.underlying t = some (.interface ms) := by
  unfold ifaceT at h
  cases hu : P.underlying t with
  | none => rw [hu] at h; cases h
  | some u => rw [hu] at h; cases u <;> first | exact ⟨_, rfl⟩ | cases h
theorem run_eqIn_if {d : Nat} {t a : TypeId} {v : Value} {w : World} {ms : Array (String × TypeId)} (ht : P.underlying t = some (.interface ms)) : (Op.equalIn (d + 1) t (.iface a v) .nilIface).run P w = .ok false w := by
  simp [Op.equalIn, run_underlying ht]
theorem run_eqIn_nn {d : Nat} {t : TypeId} {w : World} {ms : Array (String × TypeId)} (ht : P.underlying t = some (.interface ms)) : (Op.equalIn (d + 1) t .nilIface .nilIface).run P w = .ok true w := by
  simp [Op.equalIn, run_underlying ht]
theorem g_eqIN {t t' a : TypeId} {x y : Operand} {v : Value} (ho : o.op = .binOp .eql t x y t') (hx : Ev n E x (.iface a v)) (hy : Ev n E y .nilIface) (ht : ifaceT P t = true) : Gives P n C o E (.bool false) := fun w hw => by
  obtain ⟨ms, hu⟩ := ifaceT_spec ht
  unfold Ev at hx hy; unfold execOp
  have : (Op.equal t (.iface a v) .nilIface).run P w = .ok false w := run_eqIn_if (d := 9999) hu
  simp [ho, hx, hy, eqGuard, binOp, this]
theorem g_eqINN {t t' : TypeId} {x : Operand} (ho : o.op = .binOp .eql t x (.const .nilIface) t') (hx : Ev n E x .nilIface) (ht : ifaceT P t = true) : Gives P n C o E (.bool true) := fun w hw => by
  obtain ⟨ms, hu⟩ := ifaceT_spec ht
  have hy : (actOf n E).eval (.const .nilIface) = .nilIface := rfl
  unfold Ev at hx; unfold execOp
  have : (Op.equal t .nilIface .nilIface).run P w = .ok true w := run_eqIn_nn (d := 9999) hu
  simp [ho, hx, hy, eqGuard, binOp, this]
end
end Go.Proofs.Ytbofagfilohhfaa
