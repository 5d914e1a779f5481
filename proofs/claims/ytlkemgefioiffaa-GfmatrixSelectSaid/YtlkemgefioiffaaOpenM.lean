/- Matrices and rows of bytes that came in, opened. No condition. -/
import Derived.Test.YtlkemgefioiffaaOpenF
import Derived.Test.YtlkemgefioiffaaMatW
namespace Go.Proofs.Ytlkemgefioiffaa
open Go.RowKit Go.WideShapes Go.ChangeShapes Go.ChangeAt
theorem own : ownKnob Try.prog.godebug = none := by kernel_rfl
theorem laidOut : laidOutB Try.prog = true := by kernel_rfl
theorem bv_of {n : Int} (h : (Lit.int .u8 n).wf = true) : ∃ g : G, Value.int .u8 n = bv g := by
  have hb := bounds_u8 h
  exact ⟨⟨n.toNat, by omega⟩, by show _ = Value.int .u8 ((n.toNat : Nat) : Int); rw [Int.toNat_of_nonneg hb.1]⟩
theorem Lf.gs : ∀ {m : Nat} {cs : List Value}, Lf (List.replicate m (some .u8)) cs → ∃ l : List G, l.length = m ∧ cs = bvs l
  | 0, _, .nil => ⟨[], rfl, rfl⟩
  | m + 1, _, .int hw h => by
    obtain ⟨g, hg⟩ := bv_of hw
    obtain ⟨l, h1, rfl⟩ := Lf.gs h
    exact ⟨g :: l, by simp [h1], by rw [hg]; rfl⟩
section
variable {H : Type} {enc : TypeId × Value → H} {P : Program}
/-- A slice that lies in a cell. -/
theorem open_run {w : World} {sz : Nat} {t e : TypeId} {cs0 : List Value} {fuel : Nat} {x0 : DataW H × List MemPlace} (ht : P.underlying t = some (.slice e)) (hC : P.cellsOf e = sz) (hsz : 0 < sz) (hf : DataW.trod enc P w 0 (fun _ => true) true fuel t cs0 = some x0) :
    ∃ v A n c, cs0 = [v] ∧ v = Value.slice A n c ∧ ∃ css : List (List Value), (∀ cs ∈ css, cs.length = sz) ∧ Sl w sz v css.length css.flatten ∧
      ∀ cs ∈ css, ∃ fuel x, DataW.trod enc P w 0 (fun _ => true) true fuel e cs = some x := by
  rcases Deep.open_slice ht hf with ⟨hcs, _⟩ | ⟨a, len', cap', m, n, D, Pl, hcs, _, hl, hm, hmm, _, hel⟩
  · exact ⟨_, _, _, _, hcs, rfl, [], by simp, Sl.nil w sz, by simp⟩
  · refine ⟨_, _, _, _, hcs, rfl, ?_⟩
    have hmc : m = cap' := by simpa using hmm
    have each : ∀ i, ∃ cs : List Value, i < len' → cs.length = sz ∧ (∀ j, j < sz → w.cell? (a.add (i * sz + j)) = cs[j]?) ∧ ∃ fuel x, DataW.trod enc P w 0 (fun _ => true) true fuel e cs = some x := by
      intro i
      by_cases hi : i < len'
      · obtain ⟨cs', h1, h2⟩ := hel i (by omega)
        rw [hC] at h1
        obtain ⟨_, h4, h5⟩ := World.cells?_some h1
        exact ⟨cs', fun _ => ⟨h4, fun j hj => by rw [← h5 j hj, addAdd], n, _, h2⟩⟩
      · exact ⟨[], fun h => absurd h hi⟩
    obtain ⟨f, hfx⟩ := Classical.axiomOfChoice each
    have hlen : ∀ cs ∈ (List.range len').map f, cs.length = sz := by
      intro cs hcs
      obtain ⟨i, hi, rfl⟩ := List.mem_map.1 hcs
      exact (hfx i (List.mem_range.1 hi)).1
    refine ⟨(List.range len').map f, hlen, ?_, ?_⟩
    · have hnl : ((List.range len').map f).length = len' := by simp
      rw [hnl]
      refine ⟨by rw [flatten_len hlen, hnl], some a, cap', rfl, hl, hm, fun hn => ⟨a, rfl, ?_, ?_⟩⟩
      · obtain ⟨h1, h2, _⟩ := hfx 0 hn
        have h3 := h2 0 hsz
        have h4 : (f 0)[0]? = some ((f 0)[0]'(by omega)) := List.getElem?_eq_getElem (by omega)
        rw [h4] at h3
        have := World.block_lt_of_cell? w _ h3
        rwa [addBlock] at this
      · intro q u hu
        have hq : q < len' * sz := by
          have := (List.getElem?_eq_some_iff.1 hu).1
          rwa [flatten_len hlen, hnl] at this
        have e1 : q = q / sz * sz + q % sz := by rw [Nat.mul_comm]; exact (Nat.div_add_mod q sz).symm
        have hj : q % sz < sz := Nat.mod_lt _ hsz
        have hi : q / sz < len' := Nat.div_lt_of_lt_mul (by rwa [Nat.mul_comm] at hq)
        rw [e1] at hu ⊢
        rw [flatten_get hlen _ _ hj] at hu
        rw [(hfx _ hi).2.1 _ hj]
        simpa [hi] using hu
    · intro cs hcs
      obtain ⟨i, hi, rfl⟩ := List.mem_map.1 hcs
      exact (hfx i (List.mem_range.1 hi)).2.2
end
section
variable {H : Type} {enc : TypeId × Value → H} {W : World}
theorem flat_bvs {l : List G} : (l.map fun g => [bv g]).flatten = bvs l := by
  induction l with
  | nil => rfl
  | cons a l ih => rw [List.map_cons, List.flatten_cons, ih]; rfl
theorem each_bv {css : List (List Value)} (hc : ∀ c ∈ css, Lf [some .u8] c) : ∃ l : List G, l.length = css.length ∧ css.flatten = bvs l := by
  obtain ⟨l, rfl, e, _⟩ := each_flat (enc' := fun g : G => [bv g]) (ok := fun _ : G => True) (fun c hc => by
    cases hc with
    | int hw h => cases h; obtain ⟨g, hg⟩ := bv_of hw; exact ⟨g, by rw [hg], trivial⟩) hc
  exact ⟨l, by simp, by rw [flat_bvs]⟩
theorem open_bys {b0 : Nat} {v : Value} {d : DataW H} {p : List MemPlace} (hv : Value.okWide Try.prog W .any b0 28 v) (h : DataW.Trod enc Try.prog W 0 (fun _ => true) true 28 v d p) :
    ∃ l : List G, Sl W 1 v l.length (bvs l) := by
  obtain ⟨css, hs, hc⟩ := open_sl_flat (sz := 1) (ks := [some .u8]) Try.underlying28 (by kernel_rfl) (by omega) (by kernel_rfl) hv h
  obtain ⟨l, e1, e2⟩ := each_bv hc
  rw [e2, ← e1] at hs
  exact ⟨l, hs⟩
theorem row_of {fuel : Nat} {cs : List Value} {x : DataW H × List MemPlace} (h : DataW.trod enc Try.prog W 0 (fun _ => true) true fuel 28 cs = some x) : ∃ r : Row, cs = [r.v] ∧ Sl W 1 r.v r.l.length (bvs r.l) := by
  obtain ⟨v, A, n, c, e, ev, css, h1, h2, h3⟩ := open_run (sz := 1) Try.underlying28 (by kernel_rfl) (by omega) h
  obtain ⟨l, e1, e2⟩ := each_bv fun c hc => by obtain ⟨f, x, hx⟩ := h3 c hc; exact flat_trod (show fltT Try.prog 8 5 = some [some .u8] by kernel_rfl) hx
  have hn : n = l.length := by
    obtain ⟨_, A', c', h4, _⟩ := h2
    rw [ev] at h4; injection h4 with _ q _; omega
  subst hn
  rw [ev] at e h2
  rw [e2, ← e1] at h2
  exact ⟨⟨A, c, l⟩, e, h2⟩
theorem open_mat {b0 : Nat} {v : Value} {d : DataW H} {p : List MemPlace} (hv : Value.okWide Try.prog W .any b0 22 v) (h : DataW.Trod enc Try.prog W 0 (fun _ => true) true 22 v d p) :
    ∃ rs : List Row, MatAt W v rs := by
  obtain ⟨css, _, hs, hr⟩ := open_sl_gen (sz := 1) Try.underlying22 (by kernel_rfl) (by omega) hv h
  have key : ∃ rs : List Row, css = rs.map (fun r => [r.v]) ∧ ∀ r ∈ rs, Sl W 1 r.v r.l.length (bvs r.l) := by
    clear hs
    induction css with
    | nil => exact ⟨[], rfl, by simp⟩
    | cons c css ih =>
      rename_i h0
      obtain ⟨rs, e, hok⟩ := ih (fun cs h => h0 cs (by simp [h])) (fun cs h => hr cs (by simp [h]))
      obtain ⟨f, x, hx⟩ := hr c (by simp)
      obtain ⟨r, e1, e2⟩ := row_of hx
      refine ⟨r :: rs, by rw [e, e1]; rfl, fun y hy => ?_⟩
      rcases List.mem_cons.1 hy with rfl | hy
      · exact e2
      · exact hok y hy
  obtain ⟨rs, rfl, hok⟩ := key
  have hfl : ∀ l : List Row, (l.map fun r => [r.v]).flatten = l.map Row.v := fun l => by
    induction l with
    | nil => rfl
    | cons a l ih => rw [List.map_cons, List.flatten_cons, ih]; rfl
  rw [hfl, List.length_map] at hs
  exact ⟨rs, hs, hok⟩
theorem open_u8g {b0 : Nat} {v : Value} {d : DataW H} {p : List MemPlace} (hv : Value.okWide Try.prog W .any b0 5 v) (h : DataW.Trod enc Try.prog W 0 (fun _ => true) true 5 v d p) : ∃ g : G, v = bv g := by
  obtain ⟨n, rfl, _, _, hw⟩ := open_int Try.underlying5 hv h
  obtain ⟨g, hg⟩ := bv_of hw
  exact ⟨g, hg⟩
theorem open_by8 {b0 : Nat} {v : Value} {d : DataW H} {p : List MemPlace} (hv : Value.okWide Try.prog W .any b0 42 v) (h : DataW.Trod enc Try.prog W 0 (fun _ => true) true 42 v d p) : ∃ l : List G, l.length = 8 ∧ v = .agg (bvs l).toArray := by
  obtain ⟨cs, rfl, hl⟩ := open_agg (ks := List.replicate 8 (some .u8)) (by kernel_rfl) (by kernel_rfl) hv h
  obtain ⟨l, h1, rfl⟩ := hl.gs
  exact ⟨l, h1, rfl⟩
theorem open_3x36 {b0 : Nat} {v : Value} {d : DataW H} {p : List MemPlace} (hv : Value.okWide Try.prog W .any b0 54 v) (h : DataW.Trod enc Try.prog W 0 (fun _ => true) true 54 v d p) : ∃ l : List G, l.length = 108 ∧ v = .agg (bvs l).toArray := by
  obtain ⟨cs, rfl, hl⟩ := open_agg (ks := List.replicate 108 (some .u8)) (by kernel_rfl) (by kernel_rfl) hv h
  obtain ⟨l, h1, rfl⟩ := hl.gs
  exact ⟨l, h1, rfl⟩
end
end Go.Proofs.Ytlkemgefioiffaa
