/- The last step of every law: what is known of memory that was there before the call is enough for the row. Over any program. No condition. -/
import Derived.Test.YtbofagfilohhfaaMem
import Derived.ProofKit
import Derived.OpenShut
import Derived.Deep.Slices
import Derived.Deep.Fields
namespace Go.Proofs.Ytbofagfilohhfaa
set_option maxRecDepth 20000
open Go.RowKit Go.WideShapes Go.ChangeShapes Go.ChangeAt

section
variable {H : Type} {enc : TypeId × Value → H} {P : Program}
theorem trodAll_below (hl : laidOutB P = true) {W W' : World} (hb : Below W.heap.size W W') :
    ∀ (ts : List TypeId), (ts.all fun t => P.readableRec t && decide (t < P.types.size)) = true → ∀ (vs : List Value) (ds : List (DataW H)) (ps : List MemPlace),
      DataW.TrodAll enc P W 0 (fun _ => true) true ts vs ds ps → (∀ x ∈ ps, x.block < W.heap.size) →
      DataW.TrodAll enc P W' 0 (fun b => decide (b < W.heap.size)) true ts vs ds ps
  | [], _, vs, ds, ps, h, _ => by
    obtain ⟨rfl, rfl, rfl⟩ := trodAll_nil h
    exact trodAll_mk0
  | t :: ts, hr, vs, ds, ps, h, hlt => by
    obtain ⟨v, vs', d, ds', p, q, rfl, rfl, rfl, h1, h2⟩ := trodAll_cons h
    simp only [List.all_cons, Bool.and_eq_true, decide_eq_true_eq] at hr
    refine trodAll_cons_mk (Below.trod hl hr.1.1 hr.1.2 h1 hb fun x hx => hlt x (by simp [hx])) (trodAll_below hl hb ts ?_ _ _ _ h2 fun x hx => hlt x (by simp [hx]))
    simpa using hr.2
theorem trodAll_len {w : World} {base : Nat} {spare : Nat → Bool} {held : Bool} : ∀ (ts : List TypeId) (vs : List Value) (ds : List (DataW H)) (ps : List MemPlace),
    DataW.TrodAll enc P w base spare held ts vs ds ps → ds.length = ts.length ∧ vs.length = ts.length
  | [], vs, ds, ps, h => by obtain ⟨rfl, rfl, rfl⟩ := trodAll_nil h; exact ⟨rfl, rfl⟩
  | t :: ts, vs, ds, ps, h => by
    obtain ⟨v, vs', d, ds', p, q, rfl, rfl, rfl, _, h2⟩ := trodAll_cons h
    have := trodAll_len ts vs' ds' q h2
    exact ⟨by simp [this.1], by simp [this.2]⟩
theorem law_post {fn : Func} {s : ChangeSpec} {W W' : World} {args : Array Value} {ds gs : List (DataW H)} {before : List MemPlace} {tb : TypeId}
    (hl : laidOutB P = true) (hr : (fn.params.toList.all fun t => P.readableRec t && decide (t < P.types.size)) = true)
    (hv : s.vars = []) (hres : fn.resultTypes = #[tb]) (hbool : P.underlying tb = some .bool)
    (hs : ∀ ds : List (DataW H), ds.length = fn.params.toList.length → s.fn H ds = { results := [.lit (.bool true)], args := ds })
    (hW : DataW.Whole enc P fn.params.toList s.vars false W args.toList ds gs before) (hb : Below W.heap.size W W') :
    s.post enc P fn false true false false W args (.bool true) W' := by
  have hW0 := hW
  obtain ⟨p, q, hA, hV, rfl, _, _⟩ := hW
  have hV' := hV
  rw [hv] at hV'
  obtain ⟨rfl, rfl⟩ := trodVars_none hV'
  have hlen := (trodAll_len _ _ _ _ hA).1
  have hsd : s.fn H (ds ++ []) = { results := [.lit (.bool true)], args := ds } := by rw [List.append_nil]; exact hs ds hlen
  refine ⟨ds, [], _, [], p, [], hW0, ?_, ?_, ?_, hb.frame _, fun h => by cases h⟩
  · rw [hsd, hres]
    exact trodAll_cons_mk (shut_bool hbool _) trodAll_mk0
  · rw [hsd]
    exact trodAll_below hl hb _ hr _ _ _ hA fun x hx => hW0.lt x (by simp [hx])
  · rw [hv]
    rw [hsd]
    exact rfl
theorem open_arr_int {w : World} {base : Nat} {spare : Nat → Bool} {held : Bool} {r : Reach} {b0 n : Nat} {t e : TypeId} {k : IntKind} {v : Value} {d : DataW H} {p : List MemPlace}
    (ht : P.underlying t = some (.array n e)) (he : P.underlying e = some (.int k)) (hce : P.cellsOf e = 1) (hct : P.cellsOf t = n)
    (hv : Value.okWide P w r b0 t v) (h : DataW.Trod enc P w base spare held t v d p) :
    ∃ zs : List Int, zs.length = n ∧ v = .agg (zs.map (Value.int k)).toArray ∧ ∀ z ∈ zs, (Lit.int k z).wf = true := by
  have hv' := hv
  simp only [Value.okWide, ht] at hv'
  obtain ⟨cs, rfl, hsz, _⟩ := hv'
  obtain ⟨fuel, hf⟩ := h
  obtain ⟨xs, m, _, _, hlen, hxl, hg⟩ := DataW.trod_array ht hf
  have hcl : cs.toList.length = n := by simpa [hct] using hsz
  have key : ∀ i, i < n → ∃ z, cs.toList[i]? = some (.int k z) ∧ (Lit.int k z).wf = true := by
    intro i hi
    have h1 := hg i hi
    rw [hce, Nat.mul_one] at h1
    have hx : xs[i]? = some (xs[i]'(by omega)) := List.getElem?_eq_getElem (by omega)
    rw [hx] at h1
    obtain ⟨z, e1, _, e3⟩ := DataW.trod_int he h1
    refine ⟨z, ?_, e3⟩
    have hd : (List.drop i cs.toList).take 1 = [.int k z] := by simpa [Value.cells] using e1
    have := congrArg (fun l : List Value => l[0]?) hd
    simpa [List.getElem?_take, List.getElem?_drop] using this
  let f : Nat → Int := fun i => match cs.toList[i]? with | some (.int _ z) => z | _ => 0
  refine ⟨(List.range n).map f, by simp, ?_, ?_⟩
  · congr 1
    apply Array.ext'
    apply List.ext_getElem?
    intro i
    by_cases hi : i < n
    · obtain ⟨z, h1, _⟩ := key i hi
      have h2 : f i = z := by simp only [f, h1]
      rw [h1]
      simp [hi, h2]
    · rw [List.getElem?_eq_none (by omega), List.getElem?_eq_none (by simp; omega)]
  · intro z hz
    obtain ⟨i, hi, rfl⟩ := List.mem_map.1 hz
    obtain ⟨z', h1, h2⟩ := key i (List.mem_range.1 hi)
    simp only [f, h1]
    exact h2
theorem flatten_get {css : List (List Value)} {sz : Nat} (hl : ∀ cs ∈ css, cs.length = sz) : ∀ (i j : Nat), j < sz → (css.flatten)[i * sz + j]? = (css[i]?).bind (·[j]?) := by
  induction css with
  | nil => intro i j _; simp
  | cons c css ih =>
    intro i j hj
    have hc : c.length = sz := hl c (by simp)
    rw [List.flatten_cons]
    cases i with
    | zero => rw [List.getElem?_append_left (by omega)]; simp
    | succ i =>
      rw [List.getElem?_append_right (by rw [Nat.succ_mul]; omega), show (i + 1) * sz + j - c.length = i * sz + j from by rw [Nat.succ_mul]; omega]
      simpa using ih (fun cs h => hl cs (by simp [h])) i j hj
theorem flatten_len {css : List (List Value)} {sz : Nat} (hl : ∀ cs ∈ css, cs.length = sz) : css.flatten.length = css.length * sz := by
  induction css with
  | nil => simp
  | cons c css ih => rw [List.flatten_cons, List.length_append, hl c (by simp), ih (fun cs h => hl cs (by simp [h])), List.length_cons, Nat.succ_mul]; omega
/-- A slice that came in, whatever its elements: each element's cells, and that they read. -/
theorem open_sl_gen {w : World} {r : Reach} {b0 sz : Nat} {t e : TypeId} {v : Value} {d : DataW H} {p : List MemPlace}
    (ht : P.underlying t = some (.slice e)) (hC : P.cellsOf e = sz) (hsz : 0 < sz)
    (hv : Value.okWide P w r b0 t v) (h : DataW.Trod enc P w 0 (fun _ => true) true t v d p) :
    ∃ css : List (List Value), (∀ cs ∈ css, cs.length = sz) ∧ Sl w sz v css.length css.flatten ∧
      ∀ cs ∈ css, ∃ fuel x, DataW.trod enc P w 0 (fun _ => true) true fuel e cs = some x := by
  obtain ⟨a0, len, cap, rfl⟩ := okWide_slice ht hv
  obtain ⟨fuel, hf⟩ := h
  rcases Deep.open_slice ht hf with ⟨hcs, _⟩ | ⟨a, len', cap', m, n, D, Pl, hcs, _, hl, hm, hmm, _, hel⟩
  · have : Value.slice a0 len cap = .slice none 0 0 := by simpa [Value.cells] using hcs
    rw [this]
    exact ⟨[], by simp, Sl.nil w sz, by simp⟩
  · have he : Value.slice a0 len cap = .slice (some a) len' cap' := by simpa [Value.cells] using hcs
    rw [he]
    have hmc : m = cap' := by simpa using hmm
    have each : ∀ i, ∃ cs : List Value, i < len' → cs.length = sz ∧ (∀ j, j < sz → w.cell? (a.add (i * sz + j)) = cs[j]?) ∧ ∃ fuel x, DataW.trod enc P w 0 (fun _ => true) true fuel e cs = some x := by
      intro i
      by_cases hi : i < len'
      · obtain ⟨cs', h1, h2⟩ := hel i (by omega)
        rw [hC] at h1
        obtain ⟨_, h4, h5⟩ := World.cells?_some h1
        exact ⟨cs', fun _ => ⟨h4, fun j hj => by rw [← h5 j hj, addAdd], n, _, h2⟩⟩
      · exact ⟨[], fun h => absurd h hi⟩
    obtain ⟨f, hfx⟩ := Classical.axiomOfChoice each
    have hlen : ∀ cs ∈ (List.range len').map f, cs.length = sz := by
      intro cs hcs
      obtain ⟨i, hi, rfl⟩ := List.mem_map.1 hcs
      exact (hfx i (List.mem_range.1 hi)).1
    refine ⟨(List.range len').map f, hlen, ?_, ?_⟩
    · have hnl : ((List.range len').map f).length = len' := by simp
      rw [hnl]
      refine ⟨by rw [flatten_len hlen, hnl], some a, cap', rfl, hl, hm, fun hn => ⟨a, rfl, ?_, ?_⟩⟩
      · obtain ⟨h1, h2, _⟩ := hfx 0 hn
        have h3 := h2 0 hsz
        have h4 : (f 0)[0]? = some ((f 0)[0]'(by omega)) := List.getElem?_eq_getElem (by omega)
        rw [h4] at h3
        have := World.block_lt_of_cell? w _ h3
        rwa [addBlock] at this
      · intro q u hu
        have hq : q < len' * sz := by
          have := (List.getElem?_eq_some_iff.1 hu).1
          rwa [flatten_len hlen, hnl] at this
        have e1 : q = q / sz * sz + q % sz := by rw [Nat.mul_comm]; exact (Nat.div_add_mod q sz).symm
        have hj : q % sz < sz := Nat.mod_lt _ hsz
        have hi : q / sz < len' := Nat.div_lt_of_lt_mul (by rwa [Nat.mul_comm] at hq)
        rw [e1] at hu ⊢
        rw [flatten_get hlen _ _ hj] at hu
        rw [(hfx _ hi).2.1 _ hj]
        simpa [hi] using hu
    · intro cs hcs
      obtain ⟨i, hi, rfl⟩ := List.mem_map.1 hcs
      exact (hfx i (List.mem_range.1 hi)).2.2
end
end Go.Proofs.Ytbofagfilohhfaa
