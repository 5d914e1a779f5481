/- Lists of numbers of any kind that came in, opened. No condition. -/
import Derived.Test.YtbofagfilohhfaaOpen
namespace Go.Proofs.Ytbofagfilohhfaa
set_option maxRecDepth 20000
open Go.RowKit Go.WideShapes Go.ChangeShapes Go.ChangeAt
section
variable {H : Type} {enc : TypeId × Value → H} {W : World}
theorem flat_ones (k : IntKind) (l : List Int) : (l.map fun x => [Value.int k x]).flatten = l.map (Value.int k) := by
  induction l with
  | nil => rfl
  | cons a l ih => rw [List.map_cons, List.flatten_cons, ih]; rfl
set_option maxRecDepth 20000 in
theorem open_ints {k : IntKind} {b0 : Nat} {v : Value} {d : DataW H} {p : List MemPlace} {T e : TypeId} (hT : Try.prog.underlying T = some (.slice e)) (he : Try.prog.underlying e = some (.int k)) (hsz : Try.prog.cellsOf e = 1)
    (hv : Value.okWide Try.prog W .any b0 T v) (h : DataW.Trod enc Try.prog W 0 (fun _ => true) true T v d p) :
    ∃ l : List Int, Sl W 1 v l.length (l.map (Value.int k)) ∧ ∀ x ∈ l, (Lit.int k x).wf = true := by
  obtain ⟨css, hl, hs, hr⟩ := open_sl_gen (sz := 1) hT hsz (by omega) hv h
  have key : ∃ l : List Int, css = l.map (fun x => [Value.int k x]) ∧ ∀ x ∈ l, (Lit.int k x).wf = true := by
    clear hs
    induction css with
    | nil => exact ⟨[], rfl, by simp⟩
    | cons c css ih =>
      obtain ⟨l, e, hok⟩ := ih (fun cs h => hl cs (by simp [h])) (fun cs h => hr cs (by simp [h]))
      obtain ⟨f, x, hx⟩ := hr c (by simp)
      obtain ⟨z, e1, _, e3⟩ := DataW.trod_int he hx
      refine ⟨z :: l, by rw [e, List.map_cons, e1], ?_⟩
      intro y hy
      rcases List.mem_cons.1 hy with rfl | hy
      · exact e3
      · exact hok y hy
  obtain ⟨l, rfl, hok⟩ := key
  refine ⟨l, ?_, hok⟩
  rw [List.length_map, flat_ones] at hs
  exact hs
end
end Go.Proofs.Ytbofagfilohhfaa
