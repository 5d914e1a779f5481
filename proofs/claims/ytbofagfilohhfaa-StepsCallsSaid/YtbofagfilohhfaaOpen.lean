/- Numbers and lists of bytes that came in, opened. No condition. -/
import Derived.Test.YtbofagfilohhfaaLaw
import Derived.Test.YtbofagfilohhfaaRows
import Derived.Lib.SmallJoins
namespace Go.Proofs.Ytbofagfilohhfaa
set_option maxRecDepth 20000
open Go.RowKit Go.WideShapes Go.ChangeShapes Go.ChangeAt
section
variable {H : Type} {enc : TypeId × Value → H} {W : World} {base : Nat}
set_option maxRecDepth 20000 in
theorem open_iv {b0 : Nat} {v : Value} {d : DataW H} {p : List MemPlace} (hv : Value.okWide Try.prog W .any b0 3 v) (h : DataW.Trod enc Try.prog W 0 (fun _ => true) true 3 v d p) : ∃ n : Int, v = .int .i64 n ∧ -9223372036854775808 ≤ n ∧ n ≤ 9223372036854775807 := by
  obtain ⟨n, rfl, _, _, hw⟩ := open_int Try.underlying3 hv h
  exact ⟨n, rfl, bounds_i64 hw⟩
set_option maxRecDepth 20000 in
theorem open_u8i {b0 : Nat} {v : Value} {d : DataW H} {p : List MemPlace} (hv : Value.okWide Try.prog W .any b0 5 v) (h : DataW.Trod enc Try.prog W 0 (fun _ => true) true 5 v d p) : ∃ n : Int, v = .int .u8 n ∧ 0 ≤ n ∧ n ≤ 255 := by
  obtain ⟨n, rfl, _, _, hw⟩ := open_int Try.underlying5 hv h
  exact ⟨n, rfl, bounds_u8 hw⟩
/-- A list of bytes as numbers. -/
def u8v (x : Int) : Value := .int .u8 x
set_option maxRecDepth 20000 in
theorem open_u8s {b0 : Nat} {v : Value} {d : DataW H} {p : List MemPlace} {T : TypeId} (hT : Try.prog.underlying T = some (.slice 5)) (hv : Value.okWide Try.prog W .any b0 T v) (h : DataW.Trod enc Try.prog W 0 (fun _ => true) true T v d p) :
    ∃ l : List Int, Sl W 1 v l.length (l.map u8v) ∧ ∀ x ∈ l, 0 ≤ x ∧ x ≤ 255 := by
  obtain ⟨css, hl, hs, hr⟩ := open_sl_gen (sz := 1) hT (by kernel_rfl) (by omega) hv h
  have key : ∃ l : List Int, css = l.map (fun x => [u8v x]) ∧ ∀ x ∈ l, 0 ≤ x ∧ x ≤ 255 := by
    clear hs
    induction css with
    | nil => exact ⟨[], rfl, by simp⟩
    | cons c css ih =>
      obtain ⟨l, e, hok⟩ := ih (fun cs h => hl cs (by simp [h])) (fun cs h => hr cs (by simp [h]))
      obtain ⟨f, x, hx⟩ := hr c (by simp)
      have hc1 := hl c (by simp)
      obtain ⟨z, e1, _, e3⟩ := DataW.trod_int Try.underlying5 (by simpa using hx)
      have hb := bounds_u8 e3
      refine ⟨z :: l, ?_, ?_⟩
      · rw [e, List.map_cons]
        have hc : c = [Value.int .u8 z] := by simpa [Value.cells] using e1
        rw [hc]; rfl
      · intro y hy
        rcases List.mem_cons.1 hy with rfl | hy
        · exact hb
        · exact hok y hy
  obtain ⟨l, rfl, hok⟩ := key
  refine ⟨l, ?_, hok⟩
  rw [List.length_map] at hs
  have hfl : ∀ l : List Int, (l.map fun x => [u8v x]).flatten = l.map u8v := fun l => by
    induction l with
    | nil => rfl
    | cons a l ih => rw [List.map_cons, List.flatten_cons, ih]; rfl
  rw [hfl] at hs
  exact hs
end
end Go.Proofs.Ytbofagfilohhfaa
