/- A row of calls that came in, opened. No condition. -/
import Derived.Test.YtbofagfilohhfaaOpenF
import Derived.Test.YtbofagfilohhfaaStp15
import Derived.Test.YtbofagfilohhfaaEng18
namespace Go.Proofs.Ytbofagfilohhfaa
set_option maxRecDepth 20000
open Go.RowKit Go.WideShapes Go.ChangeShapes Go.ChangeAt
/-- A call: its kind, its number, the steps of its machine. -/
structure Ac where
  kd : Int
  n : Int
  mo : Int
instance : Inhabited Ac := ⟨⟨0, 0, 0⟩⟩
def Ac.cells (a : Ac) : List Value := [iv a.kd, iv a.n, iv a.mo]
def Ac.ok (a : Ac) : Prop := (-9223372036854775808 ≤ a.kd ∧ a.kd ≤ 9223372036854775807) ∧ (-9223372036854775808 ≤ a.n ∧ a.n ≤ 9223372036854775807) ∧ (-9223372036854775808 ≤ a.mo ∧ a.mo ≤ 9223372036854775807)
def acv (l : List Ac) : List Value := l.flatMap Ac.cells
theorem acv_len (l : List Ac) : (acv l).length = l.length * 3 := by
  induction l with
  | nil => rfl
  | cons a l ih => unfold acv at *; rw [List.flatMap_cons, List.length_append, ih]; show 3 + _ = _; rw [List.length_cons]; omega
theorem acv_get {l : List Ac} {k j : Nat} (hk : k < l.length) (hj : j < 3) {v : Value} (hv : (nth l k).cells[j]? = some v) : (acv l)[k * 3 + j]? = some v := (flat_get (enc := Ac.cells) (sz := 3) (fun _ _ => rfl) hk hj).trans hv
theorem Lf.ivS {ks : List (Option IntKind)} {cs : List Value} (h : Lf (some .i64 :: ks) cs) : ∃ z ds, cs = Go.Proofs.Ytbofagfilohhfaa.iv z :: ds ∧ -9223372036854775808 ≤ z ∧ z ≤ 9223372036854775807 ∧ Lf ks ds := by
  cases h with
  | int hw h => exact ⟨_, _, rfl, (bounds_i64 hw).1, (bounds_i64 hw).2, h⟩
theorem Lf.act {cs : List Value} (h : Lf [some .i64, some .i64, some .i64] cs) : ∃ a : Ac, cs = a.cells ∧ a.ok := by
  obtain ⟨x, ds, rfl, h1, h2, h3⟩ := h.ivS
  obtain ⟨y, ds, rfl, h4, h5, h6⟩ := h3.ivS
  obtain ⟨z, ds, rfl, h7, h8, h9⟩ := h6.ivS
  cases h9
  exact ⟨⟨x, y, z⟩, rfl, ⟨h1, h2⟩, ⟨h4, h5⟩, h7, h8⟩
section
variable {H : Type} {enc : TypeId × Value → H} {W : World}
set_option maxRecDepth 20000 in
theorem open_acts {b0 : Nat} {v : Value} {d : DataW H} {p : List MemPlace} (hv : Value.okWide Try.prog W .any b0 43 v) (h : DataW.Trod enc Try.prog W 0 (fun _ => true) true 43 v d p) :
    ∃ l : List Ac, Sl W 3 v l.length (acv l) ∧ ∀ x ∈ l, x.ok := by
  obtain ⟨css, hs, hc⟩ := open_sl_flat (sz := 3) (ks := [some .i64, some .i64, some .i64]) Try.underlying43 (by kernel_rfl) (by omega) (by kernel_rfl) hv h
  obtain ⟨l, rfl, e, hok⟩ := each_flat (fun c hc => hc.act) hc
  rw [e, List.length_map] at hs
  exact ⟨l, hs, hok⟩
end
section
variable {w0 w : World} {L : List Asrt} {S T c k : Nat} {A D : Option Addr} {kd n mo ad : Int} {es : List En} {js : List Jb} {rj : List Rj}
theorem do_e (h : CS k es js) (hk : k ≤ 1000) (h0 : 0 ≤ kd) (h3 : kd ≤ 3) (hw : H w0 (schd S A c js.length es ++ jbs js :: L) w) :
    Calls Try.prog 17 #[bp S, actV kd n mo] w (CallPost w0 L S k (nxt js.length (rOf js es) kd n mo)) := by
  obtain rfl | rfl | rfl | rfl : kd = 0 ∨ kd = 1 ∨ kd = 2 ∨ kd = 3 := by omega
  · exact do_add h hk hw
  · exact do_remove h hw
  · exact do_pick h hw
  · exact do_fair h hk hw
theorem rdo_e (hm : rj.length ≤ 64) (ha : 0 ≤ ad) (ha2 : ad ≤ 100000) (hB : BndR rj) (h0 : 0 ≤ kd) (h3 : kd ≤ 3) (hw : H w0 (rschd T D c ad rj ++ L) w) :
    Calls Try.prog 18 #[bp T, actV kd n mo] w (DoPost w0 L T (nxt ad rj kd n mo)) := by
  obtain rfl | rfl | rfl | rfl : kd = 0 ∨ kd = 1 ∨ kd = 2 ∨ kd = 3 := by omega
  · exact rdo_add hm ha ha2 hw
  · exact rdo_remove hm hw
  · exact rdo_pick hm hw
  · exact rdo_fair hm hB hw
theorem rids_k (hm : es.length ≤ 64) (hw : H w0 (rschd T D c ad (rOf js es) ++ L) w) :
    Calls Try.prog 20 #[bp T] w fun e w' => ∃ v M, e = .returned v ∧ H w M w' ∧ ∃ A' c', v = .slice A' es.length c' ∧ M = [vec A' es.length c' 3 1 (ivs (idsL es))] := by
  have h := rids_n (by rw [rOf_len]; exact hm) hw
  rw [rOf_len, rOf_ids] at h
  exact h
theorem rcredit_k {x : Int} (hm : es.length ≤ 64) (hw : H w0 (rschd T D c ad (rOf js es) ++ L) w) :
    Calls Try.prog 21 #[bp T, iv x] w fun e w' => e = .returned (iv (crI es x)) ∧ Below w.heap.size w w' := by
  have h := rcredit_e (x := x) (by rw [rOf_len]; exact hm) hw
  rw [rOf_crR] at h
  exact h
theorem nxt_ans (ad : Int) (rj : List Rj) (kd n mo : Int) : ∃ x b y, (nxt ad rj kd n mo).1 = ansV x b y := by
  unfold nxt stA
  repeat' split
  all_goals exact ⟨_, _, _, rfl⟩
end
set_option maxRecDepth 20000 in
theorem ans_eq (x : Int) (b : Bool) (y : Int) : EqV Try.prog AT (ansV x b y) (ansV x b y) true := fun w => by
  have ht : Try.prog.underlying AT = some (.struct (Try.prog.fieldsOf AT)) := by kernel_rfl
  have hp : Try.prog.stoodInHeld AT = false := by kernel_rfl
  have hf : (Try.prog.fieldsOf AT).toList.map (fun f => (f.offset, f.type, decide (f.name = "_"))) = [(0, 3, false), (1, 4, false), (2, 25, false)] := by kernel_rfl
  rw [show (10000 : Nat) = (9998 + 1) + 1 from rfl]
  unfold ansV
  rw [run_equalIn_agg w (9998 + 1) AT _ _ ht hp]
  obtain ⟨l, hl⟩ : ∃ l, (Try.prog.fieldsOf AT).toList = l := ⟨_, rfl⟩
  rw [hl] at hf ⊢
  clear hl
  have hlen : l.length = 3 := by have := congrArg List.length hf; simpa using this
  match l, hlen, hf with
  | [f0, f1, f2], _, hf =>
    simp only [List.map_cons, List.map_nil, List.cons.injEq, Prod.mk.injEq, and_true, decide_eq_false_iff_not] at hf
    obtain ⟨⟨o0, t0, n0⟩, ⟨o1, t1, n1⟩, ⟨o2, t2, n2⟩⟩ := hf
    have p0 : Try.prog.plainKey f0.type = true := by rw [t0]; kernel_rfl
    have p1 : Try.prog.plainKey f1.type = true := by rw [t1]; kernel_rfl
    have p2 : Try.prog.plainKey f2.type = true := by rw [t2]; kernel_rfl
    rw [Op.eqFields, if_pos n0, o0, Sem.run_bind, run_part_plain w p0 (v := iv x) rfl]
    simp only [Result.andThen_ok]
    rw [Sem.run_bind, run_part_plain w p0 (v := iv x) rfl]
    simp only [Result.andThen_ok]
    rw [Sem.run_bind, run_equalIn_int w _ f0.type .i64 .i64 x x (by rw [t0]; kernel_rfl)]
    simp only [Result.andThen_ok, beq_self_eq_true, Bool.not_true, Bool.false_eq_true, if_false]
    rw [Op.eqFields, if_pos n1, o1, Sem.run_bind, run_part_plain w p1 (v := .bool b) rfl]
    simp only [Result.andThen_ok]
    rw [Sem.run_bind, run_part_plain w p1 (v := .bool b) rfl]
    simp only [Result.andThen_ok]
    rw [Sem.run_bind, run_equalIn_bool w _ f1.type b b (by rw [t1]; kernel_rfl)]
    simp only [Result.andThen_ok, beq_self_eq_true, Bool.not_true, Bool.false_eq_true, if_false]
    rw [Op.eqFields, if_pos n2, o2, Sem.run_bind, run_part_plain w p2 (v := iv y) rfl]
    simp only [Result.andThen_ok]
    rw [Sem.run_bind, run_part_plain w p2 (v := iv y) rfl]
    simp only [Result.andThen_ok]
    rw [Sem.run_bind, run_equalIn_int w _ f2.type .i64 .i64 y y (by rw [t2]; kernel_rfl)]
    simp only [Result.andThen_ok, beq_self_eq_true, Bool.not_true, Bool.false_eq_true, if_false, Op.eqFields]
    rfl
end Go.Proofs.Ytbofagfilohhfaa
