/- Lists of steps that came in. No condition. -/
import Derived.Test.YtcdpffndpaldoaaThr5
import Derived.Test.YtcdpffndpaldoaaOpen
namespace Go.Proofs.Ytcdpffndpaldoaa
open Go.RowKit Go.WideShapes Go.ChangeShapes Go.ChangeAt
attribute [local irreducible] Calls
/-- A step: taking, and the number. -/
structure Stp where
  take : Bool
  n : Int
instance : Inhabited Stp := ⟨⟨false, 0⟩⟩
def Stp.cells (s : Stp) : List Value := [.bool s.take, iv s.n]
def Stp.ok (s : Stp) : Prop := -9223372036854775808 ≤ s.n ∧ s.n ≤ 9223372036854775807
theorem stp2 {l : List Stp} : ∀ s ∈ l, (Stp.cells s).length = 2 := fun _ _ => rfl
theorem stp_take {s : Stp} {b : Bool} (h : s.take = b) : (Stp.cells s)[0]? = some (.bool b) := by rw [← h]; rfl
theorem stp_ok {l : List Stp} (h : ∀ s ∈ l, s.ok) {k : Nat} (hk : k < l.length) : -9223372036854775808 ≤ (nth l k).n ∧ (nth l k).n ≤ 9223372036854775807 := h _ (by rw [nth_eq hk]; exact List.getElem_mem hk)
section
variable {H : Type} {enc : TypeId × Value → H} {W : World}
theorem open_steps {b0 : Nat} {v : Value} {d : DataW H} {p : List MemPlace} (hv : Value.okWide Try.prog W .any b0 29 v) (h : DataW.Trod enc Try.prog W 0 (fun _ => true) true 29 v d p) :
    ∃ l : List Stp, Sl W 2 v l.length (l.flatMap Stp.cells) ∧ ∀ s ∈ l, s.ok := by
  obtain ⟨css, hl, hs, hr⟩ := open_sl_gen (sz := 2) Try.underlying29 (by kernel_rfl) (by omega) hv h
  have cI : Try.prog.cellsOf 3 = 1 := by kernel_rfl
  have cB : Try.prog.cellsOf 4 = 1 := by kernel_rfl
  have key : ∃ l : List Stp, css = l.map Stp.cells ∧ ∀ s ∈ l, s.ok := by
    clear hs
    induction css with
    | nil => exact ⟨[], rfl, by simp⟩
    | cons c css ih =>
      obtain ⟨l, e, hok⟩ := ih (fun cs h => hl cs (by simp [h])) (fun cs h => hr cs (by simp [h]))
      obtain ⟨f, x, hx⟩ := hr c (by simp)
      obtain ⟨xs, n, _, _, _, hxl, hg⟩ := DataW.trod_struct Try.underlying35 hx
      have hc2 := hl c (by simp)
      match c, hc2 with
      | [c0, c1], _ =>
        match xs, hxl with
        | [x0, x1], _ =>
          have h0 : DataW.trod enc Try.prog W 0 (fun _ => true) true n 4 (([c0, c1].drop 0).take (Try.prog.cellsOf 4)) = some x0 := hg 0 _ rfl
          have h1 : DataW.trod enc Try.prog W 0 (fun _ => true) true n 3 (([c0, c1].drop 1).take (Try.prog.cellsOf 3)) = some x1 := hg 1 _ rfl
          rw [cB] at h0
          rw [cI] at h1
          obtain ⟨z0, e0, _⟩ := DataW.trod_bool Try.underlying4 h0
          obtain ⟨z1, e1, _, w1⟩ := DataW.trod_int Try.underlying3 h1
          simp at e0 e1
          subst e0; subst e1
          refine ⟨⟨z0, z1⟩ :: l, by rw [e]; rfl, fun s hs => ?_⟩
          rcases List.mem_cons.1 hs with rfl | hs
          · exact bounds_i64 w1
          · exact hok s hs
  obtain ⟨l, rfl, hok⟩ := key
  refine ⟨l, ?_, hok⟩
  rw [List.length_map] at hs
  rw [List.flatMap_def]
  exact hs
end
end Go.Proofs.Ytcdpffndpaldoaa
