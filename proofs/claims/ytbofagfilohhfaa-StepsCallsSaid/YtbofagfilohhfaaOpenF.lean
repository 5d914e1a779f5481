/- Values of types of numbers and bools alone (arrays, structs, to the bottom) that came in, opened. No condition. -/
import Derived.Test.YtbofagfilohhfaaOpen2
namespace Go.Proofs.Ytbofagfilohhfaa
set_option maxRecDepth 20000
open Go.RowKit Go.WideShapes Go.ChangeShapes Go.ChangeAt
/-- The kinds of a type's cells: a number's kind, or none for a bool. -/
def fltFs (P : Program) (g : TypeId → Option (List (Option IntKind))) : Nat → List Field → Option (List (Option IntKind))
  | _, [] => some []
  | off, f :: fs => if f.offset = off then (g f.type).bind fun l => if P.cellsOf f.type = l.length then (fltFs P g (off + l.length) fs).map fun r => l ++ r else none else none
def fltT (P : Program) : Nat → TypeId → Option (List (Option IntKind))
  | 0, _ => none
  | n + 1, t => match P.underlying t with
    | some (.int k) => some [some k]
    | some .bool => some [none]
    | some (.array m e) => (fltT P n e).bind fun l => if P.cellsOf e = l.length ∧ P.cellsOf t = m * l.length then some (List.replicate m l).flatten else none
    | some (.struct fs) => (fltFs P (fltT P n) 0 fs.toList).bind fun l => if P.cellsOf t = l.length then some l else none
    | _ => none
inductive Lf : List (Option IntKind) → List Value → Prop
  | nil : Lf [] []
  | int {k : IntKind} {z : Int} {ks : List (Option IntKind)} {cs : List Value} : (Lit.int k z).wf = true → Lf ks cs → Lf (some k :: ks) (.int k z :: cs)
  | bool {b : Bool} {ks : List (Option IntKind)} {cs : List Value} : Lf ks cs → Lf (none :: ks) (.bool b :: cs)
theorem Lf.len {ks : List (Option IntKind)} {cs : List Value} (h : Lf ks cs) : cs.length = ks.length := by induction h <;> simp_all
theorem Lf.app {ks ls : List (Option IntKind)} {cs ds : List Value} (h : Lf ks cs) (h2 : Lf ls ds) : Lf (ks ++ ls) (cs ++ ds) := by
  induction h with
  | nil => exact h2
  | int hw _ ih => exact .int hw ih
  | bool _ ih => exact .bool ih
theorem Lf.split : ∀ {ks ls : List (Option IntKind)} {cs : List Value}, Lf (ks ++ ls) cs → ∃ c1 c2, cs = c1 ++ c2 ∧ Lf ks c1 ∧ Lf ls c2
  | [], _, cs, h => ⟨[], cs, rfl, .nil, h⟩
  | _ :: _, _, _, .int hw h => by obtain ⟨c1, c2, rfl, h1, h2⟩ := Lf.split h; exact ⟨_ :: c1, c2, rfl, .int hw h1, h2⟩
  | _ :: _, _, _, .bool h => by obtain ⟨c1, c2, rfl, h1, h2⟩ := Lf.split h; exact ⟨_ :: c1, c2, rfl, .bool h1, h2⟩
theorem Lf.many {l : List (Option IntKind)} : ∀ {m : Nat} {cs : List Value}, Lf (List.replicate m l).flatten cs → ∃ css : List (List Value), css.length = m ∧ cs = css.flatten ∧ ∀ c ∈ css, Lf l c
  | 0, _, .nil => ⟨[], rfl, rfl, by simp⟩
  | m + 1, cs, h => by
    rw [List.replicate_succ, List.flatten_cons] at h
    obtain ⟨c1, c2, rfl, h1, h2⟩ := h.split
    obtain ⟨css, e1, rfl, h3⟩ := Lf.many h2
    refine ⟨c1 :: css, by simp [e1], rfl, fun c hc => ?_⟩
    rcases List.mem_cons.1 hc with rfl | hc
    · exact h1
    · exact h3 c hc
section
variable {H : Type} {enc : TypeId × Value → H} {P : Program} {w : World} {base : Nat} {spare : Nat → Bool} {held : Bool}
theorem flat_items {e : TypeId} {l : List (Option IntKind)} {m : Nat} : ∀ {cs : List Value} {q : Nat}, cs.length = q + m * l.length → (∀ i, i < m → Lf l ((cs.drop (q + i * l.length)).take l.length)) → Lf (List.replicate m l).flatten (cs.drop q) := by
  induction m with
  | zero => intro cs q hl _; rw [List.drop_of_length_le (by omega)]; exact .nil
  | succ m ih =>
    intro cs q hl h
    rw [List.replicate_succ, List.flatten_cons]
    have h0 := h 0 (by omega)
    rw [Nat.zero_mul, Nat.add_zero] at h0
    have h1 := ih (cs := cs) (q := q + l.length) (by rw [hl, Nat.succ_mul]; omega) (fun i hi => by have := h (i + 1) (by omega); rwa [Nat.succ_mul, show q + (i * l.length + l.length) = q + l.length + i * l.length from by omega] at this)
    have := h0.app h1
    rwa [← List.drop_drop, List.take_append_drop] at this
theorem flat_fields {g : TypeId → Option (List (Option IntKind))} : ∀ {fs : List Field} {off : Nat} {ks : List (Option IntKind)} {cs : List Value}, fltFs P g off fs = some ks → cs.length = off + ks.length →
    (∀ f ∈ fs, ∀ l, g f.type = some l → P.cellsOf f.type = l.length → Lf l ((cs.drop f.offset).take (P.cellsOf f.type))) → Lf ks (cs.drop off)
  | [], off, ks, cs, h, hl, _ => by
    simp only [fltFs, Option.some.injEq] at h
    subst h
    rw [List.drop_of_length_le (by simpa using Nat.le_of_eq hl)]; exact .nil
  | f :: fs, off, ks, cs, h, hl, hf => by
    simp only [fltFs] at h
    by_cases ho : f.offset = off
    · rw [if_pos ho] at h
      cases hg : g f.type with
      | none => rw [hg] at h; cases h
      | some l =>
        rw [hg, Option.bind_some] at h
        by_cases hc : P.cellsOf f.type = l.length
        · rw [if_pos hc] at h
          cases hr : fltFs P g (off + l.length) fs with
          | none => rw [hr] at h; cases h
          | some r =>
            rw [hr] at h
            simp only [Option.map_some, Option.some.injEq] at h
            subst h
            have h0 := hf f (by simp) l hg hc
            have h1 := flat_fields hr (cs := cs) (by rw [hl, List.length_append]; omega) (fun f' hf' => hf f' (by simp [hf']))
            rw [hc, ho] at h0
            have := h0.app h1
            rwa [← List.drop_drop, List.take_append_drop] at this
        · rw [if_neg hc] at h; cases h
    · rw [if_neg ho] at h; cases h
theorem flat_trod : ∀ {n : Nat} {t : TypeId} {ks : List (Option IntKind)} {fuel : Nat} {cs : List Value} {x : DataW H × List MemPlace}, fltT P n t = some ks → DataW.trod enc P w base spare held fuel t cs = some x → Lf ks cs
  | 0, _, _, _, _, _, h, _ => by cases h
  | n + 1, t, ks, fuel, cs, x, h, hx => by
    simp only [fltT] at h
    split at h
    · rename_i k hu
      obtain ⟨z, e1, _, e3⟩ := DataW.trod_int hu hx
      simp only [Option.some.injEq] at h
      subst h; subst e1
      exact .int e3 .nil
    · rename_i hu
      obtain ⟨z, e1, _⟩ := DataW.trod_bool hu hx
      simp only [Option.some.injEq] at h
      subst h; subst e1
      exact .bool .nil
    · rename_i m e hu
      cases hg : fltT P n e with
      | none => rw [hg] at h; cases h
      | some l =>
        rw [hg, Option.bind_some] at h
        by_cases hc : P.cellsOf e = l.length ∧ P.cellsOf t = m * l.length
        · rw [if_pos hc] at h
          simp only [Option.some.injEq] at h
          subst h
          obtain ⟨xs, q, _, _, hl, hxl, hi⟩ := DataW.trod_array hu hx
          have := flat_items (cs := cs) (q := 0) (l := l) (m := m) (by rw [hl, hc.2, Nat.zero_add]) (fun i hil => by
            have h1 := hi i hil
            rw [List.getElem?_eq_getElem (by omega), hc.1] at h1
            rw [Nat.zero_add]
            exact flat_trod hg h1) (e := e)
          simpa using this
        · rw [if_neg hc] at h; cases h
    · rename_i fs hu
      cases hg : fltFs P (fltT P n) 0 fs.toList with
      | none => rw [hg] at h; cases h
      | some l =>
        rw [hg, Option.bind_some] at h
        by_cases hc : P.cellsOf t = l.length
        · rw [if_pos hc] at h
          simp only [Option.some.injEq] at h
          subst h
          obtain ⟨xs, q, _, _, hl, hxl, hi⟩ := DataW.trod_struct hu hx
          have := flat_fields (cs := cs) hg (by rw [hl, hc, Nat.zero_add]) (fun f hf l' hl' hc' => by
            obtain ⟨i, hil, hfi⟩ := List.getElem_of_mem hf
            have hsz : i < fs.size := by simpa using hil
            have h1 := hi i f (by rw [Array.getElem?_eq_getElem hsz]; simpa using hfi)
            rw [List.getElem?_eq_getElem (by omega)] at h1
            exact flat_trod hl' h1)
          simpa using this
        · rw [if_neg hc] at h; cases h
    · cases h
end
def aggB (P : Program) (t : TypeId) : Bool := match P.underlying t with | some (.struct _) => true | some (.array _ _) => true | _ => false
section
variable {H : Type} {enc : TypeId × Value → H} {W : World}
set_option maxRecDepth 20000 in
/-- A struct or an array that came in. -/
theorem open_agg {b0 : Nat} {t : TypeId} {ks : List (Option IntKind)} {v : Value} {d : DataW H} {p : List MemPlace} (ha : aggB Try.prog t = true) (hk : fltT Try.prog 8 t = some ks) (hv : Value.okWide Try.prog W .any b0 t v) (h : DataW.Trod enc Try.prog W 0 (fun _ => true) true t v d p) : ∃ cs : List Value, v = .agg cs.toArray ∧ Lf ks cs := by
  obtain ⟨cs, rfl⟩ : ∃ cs : Array Value, v = .agg cs := by
    unfold aggB at ha
    cases hu : Try.prog.underlying t with
    | none => rw [hu] at ha; cases ha
    | some d =>
      rw [hu] at ha
      unfold Value.okWide at hv
      rw [hu] at hv
      cases d <;> first | (cases ha; done) | (obtain ⟨cs, h, _⟩ := hv; exact ⟨cs, h⟩)
  obtain ⟨fuel, hf⟩ := h
  exact ⟨cs.toList, rfl, flat_trod hk hf⟩
set_option maxRecDepth 20000 in
/-- A slice of such that came in. -/
theorem open_sl_flat {b0 sz : Nat} {t e : TypeId} {ks : List (Option IntKind)} {v : Value} {d : DataW H} {p : List MemPlace} (ht : Try.prog.underlying t = some (.slice e)) (hC : Try.prog.cellsOf e = sz) (hsz : 0 < sz) (hk : fltT Try.prog 8 e = some ks) (hv : Value.okWide Try.prog W .any b0 t v) (h : DataW.Trod enc Try.prog W 0 (fun _ => true) true t v d p) :
    ∃ css : List (List Value), Sl W sz v css.length css.flatten ∧ ∀ c ∈ css, Lf ks c := by
  obtain ⟨css, _, hs, hr⟩ := open_sl_gen ht hC hsz hv h
  exact ⟨css, hs, fun c hc => by obtain ⟨f, x, hx⟩ := hr c hc; exact flat_trod hk hx⟩
/-- Element for element. -/
theorem each_flat {α : Type} {enc' : α → List Value} {ks : List (Option IntKind)} {ok : α → Prop} (h : ∀ c, Lf ks c → ∃ a, c = enc' a ∧ ok a) : ∀ {css : List (List Value)}, (∀ c ∈ css, Lf ks c) → ∃ l : List α, css = l.map enc' ∧ css.flatten = l.flatMap enc' ∧ ∀ a ∈ l, ok a
  | [], _ => ⟨[], rfl, rfl, by simp⟩
  | c :: css, hc => by
    obtain ⟨a, rfl, ha⟩ := h c (hc c (by simp))
    obtain ⟨l, rfl, e, hl⟩ := each_flat h (fun c h => hc c (by simp [h])) (css := css)
    refine ⟨a :: l, rfl, by rw [List.flatten_cons, e]; rfl, fun b hb => ?_⟩
    rcases List.mem_cons.1 hb with rfl | hb
    · exact ha
    · exact hl b hb
end
end Go.Proofs.Ytbofagfilohhfaa
