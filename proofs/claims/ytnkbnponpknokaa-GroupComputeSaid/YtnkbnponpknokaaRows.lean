/-
  No cell of these rows narrows 'for every input' (looked for: loops, veiled, ifaces, maps, wideKeys, modest, calm, conditions, laid).
  DERIVED. THE GIVEN ROWS OF THIS SEAT. 8 by the template 'for every input the law returns true; each argument reads behind the call as it read before'; 0 by the template 'total and deterministic' (their statements: YtnkbnponpknokaaTotals.lean).
  GIVEN WITH THE SEED: the statements are not yours to turn. If you find one false, say at which input.
  Laid BY PROGRAM, IN A SANDBOX (cutbox-rows.mjs): the forced cells as the released guide's own fill.sh prints them over the translation bd2864d92c906873… (all of the seat's roots in one cut). By AI agents, Wed Nov 11 2026. No macro, syntax, notation, axiom, sorry.
-/
import Derived.Test.YtnkbnponpknokaaChecked
import GoSem.Claim
import GoSem.ClaimJoined
import GoSem.ClaimMapViews
import Derived.JoinedTies
import Derived.KernelRfl
namespace Go.Proofs.Ytnkbnponpknokaa
/- THE CELL 'sum', in the pinned program and in every row, IS THE sha256 OF THE DUMP (.gsa) THAT YtnkbnponpknokaaProg.lean LOADS. Nothing in Lean hashes anything: it is a label: what it is worth is what the hold of that sum in a sandbox is worth. -/
noncomputable def Try.pinned : Pinned := { name := "ytnkbnponpknokaa", sum := "bd2864d92c906873704354c6d16667099579dce0d36ed1a8769c36d38a205a8b", checked := Try.checked }
namespace Rows
def none {H : Type} : Left H := { results := [], args := [] }

/-- 'tegulalaw24.GroupApply': WHATEVER THE INPUT: true; the input reads as it did. -/
def groupApplySpec : ChangeSpec := { name := "groupApply", fn := fun _ => fun
  | [d1, d2] => { results := [.lit (.bool true)], args := [d1, d2] }
  | _ => none }
def groupApplyRow : OpenClaim := { program := "ytnkbnponpknokaa", sum := "bd2864d92c906873704354c6d16667099579dce0d36ed1a8769c36d38a205a8b", func := "tegula/tegulalaw24.GroupApply", spec := "groupApply", unfollowed := true, recurses := true, apart := false }
def GroupApplySaid : Prop := groupApplyRow.holds Try.pinned (OpenSpec.ofChange groupApplySpec)

/-- ITS FALSE NEIGHBOUR: 'it returns false'. Refute it at one input. -/
def groupApplyWrong : ChangeSpec := { name := "groupApply", fn := fun _ => fun
  | [d1, d2] => { results := [.lit (.bool false)], args := [d1, d2] }
  | _ => none }
def GroupApplyWrongFalsely : Prop := groupApplyRow.holds Try.pinned (OpenSpec.ofChange groupApplyWrong)

/-- 'tegulalaw24.GroupConsistent': WHATEVER THE INPUT: true; the input reads as it did. -/
def groupConsistentSpec : ChangeSpec := { name := "groupConsistent", fn := fun _ => fun
  | [d1, d2, d3] => { results := [.lit (.bool true)], args := [d1, d2, d3] }
  | _ => none }
def groupConsistentRow : OpenClaim := { program := "ytnkbnponpknokaa", sum := "bd2864d92c906873704354c6d16667099579dce0d36ed1a8769c36d38a205a8b", func := "tegula/tegulalaw24.GroupConsistent", spec := "groupConsistent", unfollowed := true, recurses := true, apart := false }
def GroupConsistentSaid : Prop := groupConsistentRow.holds Try.pinned (OpenSpec.ofChange groupConsistentSpec)

/-- ITS FALSE NEIGHBOUR: 'it returns false'. Refute it at one input. -/
def groupConsistentWrong : ChangeSpec := { name := "groupConsistent", fn := fun _ => fun
  | [d1, d2, d3] => { results := [.lit (.bool false)], args := [d1, d2, d3] }
  | _ => none }
def GroupConsistentWrongFalsely : Prop := groupConsistentRow.holds Try.pinned (OpenSpec.ofChange groupConsistentWrong)

/-- 'tegulalaw24.GroupReads': WHATEVER THE INPUT: true; the input reads as it did. -/
def groupReadsSpec : ChangeSpec := { name := "groupReads", fn := fun _ => fun
  | [d1, d2, d3] => { results := [.lit (.bool true)], args := [d1, d2, d3] }
  | _ => none }
def groupReadsRow : OpenClaim := { program := "ytnkbnponpknokaa", sum := "bd2864d92c906873704354c6d16667099579dce0d36ed1a8769c36d38a205a8b", func := "tegula/tegulalaw24.GroupReads", spec := "groupReads", unfollowed := true, recurses := true, apart := false }
def GroupReadsSaid : Prop := groupReadsRow.holds Try.pinned (OpenSpec.ofChange groupReadsSpec)

/-- ITS FALSE NEIGHBOUR: 'it returns false'. Refute it at one input. -/
def groupReadsWrong : ChangeSpec := { name := "groupReads", fn := fun _ => fun
  | [d1, d2, d3] => { results := [.lit (.bool false)], args := [d1, d2, d3] }
  | _ => none }
def GroupReadsWrongFalsely : Prop := groupReadsRow.holds Try.pinned (OpenSpec.ofChange groupReadsWrong)

/-- 'tegulalaw24.GroupFewest': WHATEVER THE INPUT: true; the input reads as it did. -/
def groupFewestSpec : ChangeSpec := { name := "groupFewest", fn := fun _ => fun
  | [d1, d2, d3] => { results := [.lit (.bool true)], args := [d1, d2, d3] }
  | _ => none }
def groupFewestRow : OpenClaim := { program := "ytnkbnponpknokaa", sum := "bd2864d92c906873704354c6d16667099579dce0d36ed1a8769c36d38a205a8b", func := "tegula/tegulalaw24.GroupFewest", spec := "groupFewest", unfollowed := true, recurses := true, apart := false }
def GroupFewestSaid : Prop := groupFewestRow.holds Try.pinned (OpenSpec.ofChange groupFewestSpec)

/-- ITS FALSE NEIGHBOUR: 'it returns false'. Refute it at one input. -/
def groupFewestWrong : ChangeSpec := { name := "groupFewest", fn := fun _ => fun
  | [d1, d2, d3] => { results := [.lit (.bool false)], args := [d1, d2, d3] }
  | _ => none }
def GroupFewestWrongFalsely : Prop := groupFewestRow.holds Try.pinned (OpenSpec.ofChange groupFewestWrong)

/-- 'tegulalaw24.GroupFewer': WHATEVER THE INPUT: true; the input reads as it did. -/
def groupFewerSpec : ChangeSpec := { name := "groupFewer", fn := fun _ => fun
  | [d1, d2] => { results := [.lit (.bool true)], args := [d1, d2] }
  | _ => none }
def groupFewerRow : OpenClaim := { program := "ytnkbnponpknokaa", sum := "bd2864d92c906873704354c6d16667099579dce0d36ed1a8769c36d38a205a8b", func := "tegula/tegulalaw24.GroupFewer", spec := "groupFewer", unfollowed := true, recurses := true, apart := false }
def GroupFewerSaid : Prop := groupFewerRow.holds Try.pinned (OpenSpec.ofChange groupFewerSpec)

/-- ITS FALSE NEIGHBOUR: 'it returns false'. Refute it at one input. -/
def groupFewerWrong : ChangeSpec := { name := "groupFewer", fn := fun _ => fun
  | [d1, d2] => { results := [.lit (.bool false)], args := [d1, d2] }
  | _ => none }
def GroupFewerWrongFalsely : Prop := groupFewerRow.holds Try.pinned (OpenSpec.ofChange groupFewerWrong)

/-- 'tegulalaw24.GroupWrites': WHATEVER THE INPUT: true; the input reads as it did. -/
def groupWritesSpec : ChangeSpec := { name := "groupWrites", fn := fun _ => fun
  | [d1, d2, d3, d4] => { results := [.lit (.bool true)], args := [d1, d2, d3, d4] }
  | _ => none }
def groupWritesRow : OpenClaim := { program := "ytnkbnponpknokaa", sum := "bd2864d92c906873704354c6d16667099579dce0d36ed1a8769c36d38a205a8b", func := "tegula/tegulalaw24.GroupWrites", spec := "groupWrites", unfollowed := true, recurses := true, apart := false }
def GroupWritesSaid : Prop := groupWritesRow.holds Try.pinned (OpenSpec.ofChange groupWritesSpec)

/-- ITS FALSE NEIGHBOUR: 'it returns false'. Refute it at one input. -/
def groupWritesWrong : ChangeSpec := { name := "groupWrites", fn := fun _ => fun
  | [d1, d2, d3, d4] => { results := [.lit (.bool false)], args := [d1, d2, d3, d4] }
  | _ => none }
def GroupWritesWrongFalsely : Prop := groupWritesRow.holds Try.pinned (OpenSpec.ofChange groupWritesWrong)

/-- 'tegulalaw24.GroupCompute': WHATEVER THE INPUT: true; the input reads as it did. -/
def groupComputeSpec : ChangeSpec := { name := "groupCompute", fn := fun _ => fun
  | [d] => { results := [.lit (.bool true)], args := [d] }
  | _ => none }
def groupComputeRow : OpenClaim := { program := "ytnkbnponpknokaa", sum := "bd2864d92c906873704354c6d16667099579dce0d36ed1a8769c36d38a205a8b", func := "tegula/tegulalaw24.GroupCompute", spec := "groupCompute", unfollowed := true, recurses := true, apart := false }
def GroupComputeSaid : Prop := groupComputeRow.holds Try.pinned (OpenSpec.ofChange groupComputeSpec)

/-- ITS FALSE NEIGHBOUR: 'it returns false'. Refute it at one input. -/
def groupComputeWrong : ChangeSpec := { name := "groupCompute", fn := fun _ => fun
  | [d] => { results := [.lit (.bool false)], args := [d] }
  | _ => none }
def GroupComputeWrongFalsely : Prop := groupComputeRow.holds Try.pinned (OpenSpec.ofChange groupComputeWrong)

/-- 'tegulalaw24.GroupPartial': WHATEVER THE INPUT: true; the input reads as it did. -/
def groupPartialSpec : ChangeSpec := { name := "groupPartial", fn := fun _ => fun
  | [d1, d2, d3] => { results := [.lit (.bool true)], args := [d1, d2, d3] }
  | _ => none }
def groupPartialRow : OpenClaim := { program := "ytnkbnponpknokaa", sum := "bd2864d92c906873704354c6d16667099579dce0d36ed1a8769c36d38a205a8b", func := "tegula/tegulalaw24.GroupPartial", spec := "groupPartial", unfollowed := true, recurses := true, apart := false }
def GroupPartialSaid : Prop := groupPartialRow.holds Try.pinned (OpenSpec.ofChange groupPartialSpec)

/-- ITS FALSE NEIGHBOUR: 'it returns false'. Refute it at one input. -/
def groupPartialWrong : ChangeSpec := { name := "groupPartial", fn := fun _ => fun
  | [d1, d2, d3] => { results := [.lit (.bool false)], args := [d1, d2, d3] }
  | _ => none }
def GroupPartialWrongFalsely : Prop := groupPartialRow.holds Try.pinned (OpenSpec.ofChange groupPartialWrong)

/- THE SECOND FORM. 'bulk': how many values and letters a reading holds, each counted each time it is reached (what is shared counts as often as it is met; a slice's spare places count too). A statement '..UptoSaid' is the law's where the arguments, and the package variables that the reading takes, are together of bulk at most 1048576: NARROWER than '..Said'. Prove '..Said' where nothing that the law and all that it calls make is longer than what came in: it says more and counts as full. Else prove '..UptoSaid'. A law counts once. -/
mutual
def uptoBulk {H : Type} : DataW H → Nat
  | .lit (.string bytes) => bytes.length + 1
  | .lit _ => 1
  | .nil => 1
  | .ptr d => uptoBulk d + 1
  | .slice elems spare => uptoBulkAll elems + uptoBulkAll spare + 1
  | .agg parts => uptoBulkAll parts + 1
  | .iface _ d => uptoBulk d + 1
  | .map entries => uptoBulkEntries entries + 1
  | .held _ => 1
def uptoBulkAll {H : Type} : List (DataW H) → Nat
  | [] => 0
  | d :: r => uptoBulk d + uptoBulkAll r
def uptoBulkEntries {H : Type} : List (Lit × DataW H) → Nat
  | [] => 0
  | x :: r => uptoBulkEntry x + uptoBulkEntries r
def uptoBulkEntry {H : Type} : Lit × DataW H → Nat
  | (.string bytes, d) => bytes.length + uptoBulk d + 1
  | (_, d) => uptoBulk d + 1
 end
def uptoSmall : (H : Type) → List (DataW H) → Bool := fun _ ds => decide (uptoBulkAll ds ≤ 1048576)
def OpenSpec.upto (s : _root_.Go.ChangeSpec) : _root_.Go.OpenSpec := { _root_.Go.OpenSpec.ofChange s with cond := some uptoSmall }

/-- 'tegulalaw24.GroupApply', WHERE WHAT IT READS IS OF BULK AT MOST 1048576: true; the input reads as it did. -/
def groupApplyUptoRow : OpenClaim := { program := "ytnkbnponpknokaa", sum := "bd2864d92c906873704354c6d16667099579dce0d36ed1a8769c36d38a205a8b", func := "tegula/tegulalaw24.GroupApply", spec := "groupApply", unfollowed := true, recurses := true, apart := false, narrowed := true }
def GroupApplyUptoSaid : Prop := groupApplyUptoRow.holds Try.pinned (OpenSpec.upto groupApplySpec)

/-- 'tegulalaw24.GroupConsistent', WHERE WHAT IT READS IS OF BULK AT MOST 1048576: true; the input reads as it did. -/
def groupConsistentUptoRow : OpenClaim := { program := "ytnkbnponpknokaa", sum := "bd2864d92c906873704354c6d16667099579dce0d36ed1a8769c36d38a205a8b", func := "tegula/tegulalaw24.GroupConsistent", spec := "groupConsistent", unfollowed := true, recurses := true, apart := false, narrowed := true }
def GroupConsistentUptoSaid : Prop := groupConsistentUptoRow.holds Try.pinned (OpenSpec.upto groupConsistentSpec)

/-- 'tegulalaw24.GroupReads', WHERE WHAT IT READS IS OF BULK AT MOST 1048576: true; the input reads as it did. -/
def groupReadsUptoRow : OpenClaim := { program := "ytnkbnponpknokaa", sum := "bd2864d92c906873704354c6d16667099579dce0d36ed1a8769c36d38a205a8b", func := "tegula/tegulalaw24.GroupReads", spec := "groupReads", unfollowed := true, recurses := true, apart := false, narrowed := true }
def GroupReadsUptoSaid : Prop := groupReadsUptoRow.holds Try.pinned (OpenSpec.upto groupReadsSpec)

/-- 'tegulalaw24.GroupFewest', WHERE WHAT IT READS IS OF BULK AT MOST 1048576: true; the input reads as it did. -/
def groupFewestUptoRow : OpenClaim := { program := "ytnkbnponpknokaa", sum := "bd2864d92c906873704354c6d16667099579dce0d36ed1a8769c36d38a205a8b", func := "tegula/tegulalaw24.GroupFewest", spec := "groupFewest", unfollowed := true, recurses := true, apart := false, narrowed := true }
def GroupFewestUptoSaid : Prop := groupFewestUptoRow.holds Try.pinned (OpenSpec.upto groupFewestSpec)

/-- 'tegulalaw24.GroupFewer', WHERE WHAT IT READS IS OF BULK AT MOST 1048576: true; the input reads as it did. -/
def groupFewerUptoRow : OpenClaim := { program := "ytnkbnponpknokaa", sum := "bd2864d92c906873704354c6d16667099579dce0d36ed1a8769c36d38a205a8b", func := "tegula/tegulalaw24.GroupFewer", spec := "groupFewer", unfollowed := true, recurses := true, apart := false, narrowed := true }
def GroupFewerUptoSaid : Prop := groupFewerUptoRow.holds Try.pinned (OpenSpec.upto groupFewerSpec)

/-- 'tegulalaw24.GroupWrites', WHERE WHAT IT READS IS OF BULK AT MOST 1048576: true; the input reads as it did. -/
def groupWritesUptoRow : OpenClaim := { program := "ytnkbnponpknokaa", sum := "bd2864d92c906873704354c6d16667099579dce0d36ed1a8769c36d38a205a8b", func := "tegula/tegulalaw24.GroupWrites", spec := "groupWrites", unfollowed := true, recurses := true, apart := false, narrowed := true }
def GroupWritesUptoSaid : Prop := groupWritesUptoRow.holds Try.pinned (OpenSpec.upto groupWritesSpec)

/-- 'tegulalaw24.GroupCompute', WHERE WHAT IT READS IS OF BULK AT MOST 1048576: true; the input reads as it did. -/
def groupComputeUptoRow : OpenClaim := { program := "ytnkbnponpknokaa", sum := "bd2864d92c906873704354c6d16667099579dce0d36ed1a8769c36d38a205a8b", func := "tegula/tegulalaw24.GroupCompute", spec := "groupCompute", unfollowed := true, recurses := true, apart := false, narrowed := true }
def GroupComputeUptoSaid : Prop := groupComputeUptoRow.holds Try.pinned (OpenSpec.upto groupComputeSpec)

/-- 'tegulalaw24.GroupPartial', WHERE WHAT IT READS IS OF BULK AT MOST 1048576: true; the input reads as it did. -/
def groupPartialUptoRow : OpenClaim := { program := "ytnkbnponpknokaa", sum := "bd2864d92c906873704354c6d16667099579dce0d36ed1a8769c36d38a205a8b", func := "tegula/tegulalaw24.GroupPartial", spec := "groupPartial", unfollowed := true, recurses := true, apart := false, narrowed := true }
def GroupPartialUptoSaid : Prop := groupPartialUptoRow.holds Try.pinned (OpenSpec.upto groupPartialSpec)

end Rows
end Go.Proofs.Ytnkbnponpknokaa
