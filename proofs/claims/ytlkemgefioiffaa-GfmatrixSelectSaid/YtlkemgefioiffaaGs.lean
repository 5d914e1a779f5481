/- Equality of lists of bytes, walked. No condition. -/
import Derived.Test.YtlkemgefioiffaaGl
namespace Go.Proofs.Ytlkemgefioiffaa
open Go.RowKit
set_option maxHeartbeats 400000 in
theorem same_any (v1 v2 : Value) (a b : List G) (w : World) (h1 : Sl w 1 v1 a.length (bvs a)) (h2 : Sl w 1 v2 b.length (bvs b)) :
    Calls Try.prog 27 #[v1, v2] w fun e w' => e = .returned (.bool (sameG a b)) ∧ w = w' := by
  have e1 := run_str 28 9 5 Try.underlying28 Try.underlying5 Try.underlying9 h1
  have e2 := run_str 28 9 5 Try.underlying28 Try.underlying5 Try.underlying9 h2
  have e3 := str_same a b
  clear h1 h2
  go_enter Try.func27, Try.ntmps27
  go_wp2
  go_ret
  exact ⟨rfl, rfl⟩
end Go.Proofs.Ytlkemgefioiffaa
