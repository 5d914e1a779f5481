/-
  No cell of these rows narrows 'for every input' (looked for: loops, veiled, ifaces, maps, wideKeys, modest, calm, conditions, laid).
  DERIVED. THE GIVEN ROWS OF THIS SEAT. 7 by the template 'for every input the law returns true; each argument reads behind the call as it read before'; 0 by the template 'total and deterministic' (their statements: YtcdpffndpaldoaaTotals.lean).
  GIVEN WITH THE SEED: the statements are not yours to turn. If you find one false, say at which input.
  Laid BY PROGRAM, IN A SANDBOX (cutbox-rows.mjs): the forced cells as the released guide's own fill.sh prints them over the translation bca8630c293af86d… (all of the seat's roots in one cut). By AI agents, Wed Nov 11 2026. No macro, syntax, notation, axiom, sorry.
-/
import Derived.Test.YtcdpffndpaldoaaChecked
import GoSem.Claim
import GoSem.ClaimJoined
import GoSem.ClaimMapViews
import Derived.JoinedTies
import Derived.KernelRfl
namespace Go.Proofs.Ytcdpffndpaldoaa
/- THE CELL 'sum', in the pinned program and in every row, IS THE sha256 OF THE DUMP (.gsa) THAT YtcdpffndpaldoaaProg.lean LOADS. Nothing in Lean hashes anything: it is a label: what it is worth is what the hold of that sum in a sandbox is worth. -/
noncomputable def Try.pinned : Pinned := { name := "ytcdpffndpaldoaa", sum := "bca8630c293af86d4b99913f986e95d46b8a74756bd51760c97b9e0fa255c56c", checked := Try.checked }
namespace Rows
def none {H : Type} : Left H := { results := [], args := [] }

/-- 'tegulalaw43.ThrottleNew': WHATEVER THE INPUT: true; the input reads as it did. -/
def throttleNewSpec : ChangeSpec := { name := "throttleNew", fn := fun _ => fun
  | [d1, d2] => { results := [.lit (.bool true)], args := [d1, d2] }
  | _ => none }
def throttleNewRow : OpenClaim := { program := "ytcdpffndpaldoaa", sum := "bca8630c293af86d4b99913f986e95d46b8a74756bd51760c97b9e0fa255c56c", func := "tegula/tegulalaw43.ThrottleNew", spec := "throttleNew", inPlace := ["sync/atomic.StoreInt64", "sync/atomic.LoadInt64", "sync/atomic.CompareAndSwapInt64"], unfollowed := true, recurses := true, apart := false }
def ThrottleNewSaid : Prop := throttleNewRow.holds Try.pinned (OpenSpec.ofChange throttleNewSpec)

/-- ITS FALSE NEIGHBOUR: 'it returns false'. Refute it at one input. -/
def throttleNewWrong : ChangeSpec := { name := "throttleNew", fn := fun _ => fun
  | [d1, d2] => { results := [.lit (.bool false)], args := [d1, d2] }
  | _ => none }
def ThrottleNewWrongFalsely : Prop := throttleNewRow.holds Try.pinned (OpenSpec.ofChange throttleNewWrong)

/-- 'tegulalaw43.ThrottleScript': WHATEVER THE INPUT: true; the input reads as it did. -/
def throttleScriptSpec : ChangeSpec := { name := "throttleScript", fn := fun _ => fun
  | [d1, d2, d3] => { results := [.lit (.bool true)], args := [d1, d2, d3] }
  | _ => none }
def throttleScriptRow : OpenClaim := { program := "ytcdpffndpaldoaa", sum := "bca8630c293af86d4b99913f986e95d46b8a74756bd51760c97b9e0fa255c56c", func := "tegula/tegulalaw43.ThrottleScript", spec := "throttleScript", inPlace := ["sync/atomic.StoreInt64", "sync/atomic.LoadInt64", "sync/atomic.CompareAndSwapInt64"], unfollowed := true, recurses := true, apart := false }
def ThrottleScriptSaid : Prop := throttleScriptRow.holds Try.pinned (OpenSpec.ofChange throttleScriptSpec)

/-- ITS FALSE NEIGHBOUR: 'it returns false'. Refute it at one input. -/
def throttleScriptWrong : ChangeSpec := { name := "throttleScript", fn := fun _ => fun
  | [d1, d2, d3] => { results := [.lit (.bool false)], args := [d1, d2, d3] }
  | _ => none }
def ThrottleScriptWrongFalsely : Prop := throttleScriptRow.holds Try.pinned (OpenSpec.ofChange throttleScriptWrong)

/-- 'tegulalaw43.ThrottleBound': WHATEVER THE INPUT: true; the input reads as it did. -/
def throttleBoundSpec : ChangeSpec := { name := "throttleBound", fn := fun _ => fun
  | [d1, d2, d3] => { results := [.lit (.bool true)], args := [d1, d2, d3] }
  | _ => none }
def throttleBoundRow : OpenClaim := { program := "ytcdpffndpaldoaa", sum := "bca8630c293af86d4b99913f986e95d46b8a74756bd51760c97b9e0fa255c56c", func := "tegula/tegulalaw43.ThrottleBound", spec := "throttleBound", inPlace := ["sync/atomic.StoreInt64", "sync/atomic.LoadInt64", "sync/atomic.CompareAndSwapInt64"], unfollowed := true, recurses := true, apart := false }
def ThrottleBoundSaid : Prop := throttleBoundRow.holds Try.pinned (OpenSpec.ofChange throttleBoundSpec)

/-- ITS FALSE NEIGHBOUR: 'it returns false'. Refute it at one input. -/
def throttleBoundWrong : ChangeSpec := { name := "throttleBound", fn := fun _ => fun
  | [d1, d2, d3] => { results := [.lit (.bool false)], args := [d1, d2, d3] }
  | _ => none }
def ThrottleBoundWrongFalsely : Prop := throttleBoundRow.holds Try.pinned (OpenSpec.ofChange throttleBoundWrong)

/-- 'tegulalaw43.ThrottleWait': WHATEVER THE INPUT: true; the input reads as it did. -/
def throttleWaitSpec : ChangeSpec := { name := "throttleWait", fn := fun _ => fun
  | [d1, d2, d3] => { results := [.lit (.bool true)], args := [d1, d2, d3] }
  | _ => none }
def throttleWaitRow : OpenClaim := { program := "ytcdpffndpaldoaa", sum := "bca8630c293af86d4b99913f986e95d46b8a74756bd51760c97b9e0fa255c56c", func := "tegula/tegulalaw43.ThrottleWait", spec := "throttleWait", inPlace := ["sync/atomic.StoreInt64", "sync/atomic.LoadInt64", "sync/atomic.CompareAndSwapInt64"], unfollowed := true, recurses := true, apart := false }
def ThrottleWaitSaid : Prop := throttleWaitRow.holds Try.pinned (OpenSpec.ofChange throttleWaitSpec)

/-- ITS FALSE NEIGHBOUR: 'it returns false'. Refute it at one input. -/
def throttleWaitWrong : ChangeSpec := { name := "throttleWait", fn := fun _ => fun
  | [d1, d2, d3] => { results := [.lit (.bool false)], args := [d1, d2, d3] }
  | _ => none }
def ThrottleWaitWrongFalsely : Prop := throttleWaitRow.holds Try.pinned (OpenSpec.ofChange throttleWaitWrong)

/-- 'tegulalaw43.ThrottleTicks': WHATEVER THE INPUT: true; the input reads as it did. -/
def throttleTicksSpec : ChangeSpec := { name := "throttleTicks", fn := fun _ => fun
  | [d1, d2, d3] => { results := [.lit (.bool true)], args := [d1, d2, d3] }
  | _ => none }
def throttleTicksRow : OpenClaim := { program := "ytcdpffndpaldoaa", sum := "bca8630c293af86d4b99913f986e95d46b8a74756bd51760c97b9e0fa255c56c", func := "tegula/tegulalaw43.ThrottleTicks", spec := "throttleTicks", inPlace := ["sync/atomic.StoreInt64", "sync/atomic.LoadInt64", "sync/atomic.CompareAndSwapInt64"], unfollowed := true, recurses := true, apart := false }
def ThrottleTicksSaid : Prop := throttleTicksRow.holds Try.pinned (OpenSpec.ofChange throttleTicksSpec)

/-- ITS FALSE NEIGHBOUR: 'it returns false'. Refute it at one input. -/
def throttleTicksWrong : ChangeSpec := { name := "throttleTicks", fn := fun _ => fun
  | [d1, d2, d3] => { results := [.lit (.bool false)], args := [d1, d2, d3] }
  | _ => none }
def ThrottleTicksWrongFalsely : Prop := throttleTicksRow.holds Try.pinned (OpenSpec.ofChange throttleTicksWrong)

/-- 'tegulalaw43.ThrottleNil': WHATEVER THE INPUT: true; the input reads as it did. -/
def throttleNilSpec : ChangeSpec := { name := "throttleNil", fn := fun _ => fun
  | [d] => { results := [.lit (.bool true)], args := [d] }
  | _ => none }
def throttleNilRow : OpenClaim := { program := "ytcdpffndpaldoaa", sum := "bca8630c293af86d4b99913f986e95d46b8a74756bd51760c97b9e0fa255c56c", func := "tegula/tegulalaw43.ThrottleNil", spec := "throttleNil", inPlace := ["sync/atomic.LoadInt64", "sync/atomic.CompareAndSwapInt64", "sync/atomic.StoreInt64"], unfollowed := true, recurses := true, apart := false }
def ThrottleNilSaid : Prop := throttleNilRow.holds Try.pinned (OpenSpec.ofChange throttleNilSpec)

/-- ITS FALSE NEIGHBOUR: 'it returns false'. Refute it at one input. -/
def throttleNilWrong : ChangeSpec := { name := "throttleNil", fn := fun _ => fun
  | [d] => { results := [.lit (.bool false)], args := [d] }
  | _ => none }
def ThrottleNilWrongFalsely : Prop := throttleNilRow.holds Try.pinned (OpenSpec.ofChange throttleNilWrong)

/-- 'tegulalaw43.ThrottleFair': WHATEVER THE INPUT: true; the input reads as it did. -/
def throttleFairSpec : ChangeSpec := { name := "throttleFair", fn := fun _ => fun
  | [d1, d2, d3] => { results := [.lit (.bool true)], args := [d1, d2, d3] }
  | _ => none }
def throttleFairRow : OpenClaim := { program := "ytcdpffndpaldoaa", sum := "bca8630c293af86d4b99913f986e95d46b8a74756bd51760c97b9e0fa255c56c", func := "tegula/tegulalaw43.ThrottleFair", spec := "throttleFair", inPlace := ["sync/atomic.StoreInt64", "sync/atomic.LoadInt64", "sync/atomic.CompareAndSwapInt64"], unfollowed := true, recurses := true, apart := false }
def ThrottleFairSaid : Prop := throttleFairRow.holds Try.pinned (OpenSpec.ofChange throttleFairSpec)

/-- ITS FALSE NEIGHBOUR: 'it returns false'. Refute it at one input. -/
def throttleFairWrong : ChangeSpec := { name := "throttleFair", fn := fun _ => fun
  | [d1, d2, d3] => { results := [.lit (.bool false)], args := [d1, d2, d3] }
  | _ => none }
def ThrottleFairWrongFalsely : Prop := throttleFairRow.holds Try.pinned (OpenSpec.ofChange throttleFairWrong)

/- THE SECOND FORM. 'bulk': how many values and letters a reading holds, each counted each time it is reached (what is shared counts as often as it is met; a slice's spare places count too). A statement '..UptoSaid' is the law's where the arguments, and the package variables that the reading takes, are together of bulk at most 1048576: NARROWER than '..Said'. Prove '..Said' where nothing that the law and all that it calls make is longer than what came in: it says more and counts as full. Else prove '..UptoSaid'. A law counts once. -/
mutual
def uptoBulk {H : Type} : DataW H → Nat
  | .lit (.string bytes) => bytes.length + 1
  | .lit _ => 1
  | .nil => 1
  | .ptr d => uptoBulk d + 1
  | .slice elems spare => uptoBulkAll elems + uptoBulkAll spare + 1
  | .agg parts => uptoBulkAll parts + 1
  | .iface _ d => uptoBulk d + 1
  | .map entries => uptoBulkEntries entries + 1
  | .held _ => 1
def uptoBulkAll {H : Type} : List (DataW H) → Nat
  | [] => 0
  | d :: r => uptoBulk d + uptoBulkAll r
def uptoBulkEntries {H : Type} : List (Lit × DataW H) → Nat
  | [] => 0
  | x :: r => uptoBulkEntry x + uptoBulkEntries r
def uptoBulkEntry {H : Type} : Lit × DataW H → Nat
  | (.string bytes, d) => bytes.length + uptoBulk d + 1
  | (_, d) => uptoBulk d + 1
 end
def uptoSmall : (H : Type) → List (DataW H) → Bool := fun _ ds => decide (uptoBulkAll ds ≤ 1048576)
def OpenSpec.upto (s : _root_.Go.ChangeSpec) : _root_.Go.OpenSpec := { _root_.Go.OpenSpec.ofChange s with cond := some uptoSmall }

/-- 'tegulalaw43.ThrottleNew', WHERE WHAT IT READS IS OF BULK AT MOST 1048576: true; the input reads as it did. -/
def throttleNewUptoRow : OpenClaim := { program := "ytcdpffndpaldoaa", sum := "bca8630c293af86d4b99913f986e95d46b8a74756bd51760c97b9e0fa255c56c", func := "tegula/tegulalaw43.ThrottleNew", spec := "throttleNew", inPlace := ["sync/atomic.StoreInt64", "sync/atomic.LoadInt64", "sync/atomic.CompareAndSwapInt64"], unfollowed := true, recurses := true, apart := false, narrowed := true }
def ThrottleNewUptoSaid : Prop := throttleNewUptoRow.holds Try.pinned (OpenSpec.upto throttleNewSpec)

/-- 'tegulalaw43.ThrottleScript', WHERE WHAT IT READS IS OF BULK AT MOST 1048576: true; the input reads as it did. -/
def throttleScriptUptoRow : OpenClaim := { program := "ytcdpffndpaldoaa", sum := "bca8630c293af86d4b99913f986e95d46b8a74756bd51760c97b9e0fa255c56c", func := "tegula/tegulalaw43.ThrottleScript", spec := "throttleScript", inPlace := ["sync/atomic.StoreInt64", "sync/atomic.LoadInt64", "sync/atomic.CompareAndSwapInt64"], unfollowed := true, recurses := true, apart := false, narrowed := true }
def ThrottleScriptUptoSaid : Prop := throttleScriptUptoRow.holds Try.pinned (OpenSpec.upto throttleScriptSpec)

/-- 'tegulalaw43.ThrottleBound', WHERE WHAT IT READS IS OF BULK AT MOST 1048576: true; the input reads as it did. -/
def throttleBoundUptoRow : OpenClaim := { program := "ytcdpffndpaldoaa", sum := "bca8630c293af86d4b99913f986e95d46b8a74756bd51760c97b9e0fa255c56c", func := "tegula/tegulalaw43.ThrottleBound", spec := "throttleBound", inPlace := ["sync/atomic.StoreInt64", "sync/atomic.LoadInt64", "sync/atomic.CompareAndSwapInt64"], unfollowed := true, recurses := true, apart := false, narrowed := true }
def ThrottleBoundUptoSaid : Prop := throttleBoundUptoRow.holds Try.pinned (OpenSpec.upto throttleBoundSpec)

/-- 'tegulalaw43.ThrottleWait', WHERE WHAT IT READS IS OF BULK AT MOST 1048576: true; the input reads as it did. -/
def throttleWaitUptoRow : OpenClaim := { program := "ytcdpffndpaldoaa", sum := "bca8630c293af86d4b99913f986e95d46b8a74756bd51760c97b9e0fa255c56c", func := "tegula/tegulalaw43.ThrottleWait", spec := "throttleWait", inPlace := ["sync/atomic.StoreInt64", "sync/atomic.LoadInt64", "sync/atomic.CompareAndSwapInt64"], unfollowed := true, recurses := true, apart := false, narrowed := true }
def ThrottleWaitUptoSaid : Prop := throttleWaitUptoRow.holds Try.pinned (OpenSpec.upto throttleWaitSpec)

/-- 'tegulalaw43.ThrottleTicks', WHERE WHAT IT READS IS OF BULK AT MOST 1048576: true; the input reads as it did. -/
def throttleTicksUptoRow : OpenClaim := { program := "ytcdpffndpaldoaa", sum := "bca8630c293af86d4b99913f986e95d46b8a74756bd51760c97b9e0fa255c56c", func := "tegula/tegulalaw43.ThrottleTicks", spec := "throttleTicks", inPlace := ["sync/atomic.StoreInt64", "sync/atomic.LoadInt64", "sync/atomic.CompareAndSwapInt64"], unfollowed := true, recurses := true, apart := false, narrowed := true }
def ThrottleTicksUptoSaid : Prop := throttleTicksUptoRow.holds Try.pinned (OpenSpec.upto throttleTicksSpec)

/-- 'tegulalaw43.ThrottleNil', WHERE WHAT IT READS IS OF BULK AT MOST 1048576: true; the input reads as it did. -/
def throttleNilUptoRow : OpenClaim := { program := "ytcdpffndpaldoaa", sum := "bca8630c293af86d4b99913f986e95d46b8a74756bd51760c97b9e0fa255c56c", func := "tegula/tegulalaw43.ThrottleNil", spec := "throttleNil", inPlace := ["sync/atomic.LoadInt64", "sync/atomic.CompareAndSwapInt64", "sync/atomic.StoreInt64"], unfollowed := true, recurses := true, apart := false, narrowed := true }
def ThrottleNilUptoSaid : Prop := throttleNilUptoRow.holds Try.pinned (OpenSpec.upto throttleNilSpec)

/-- 'tegulalaw43.ThrottleFair', WHERE WHAT IT READS IS OF BULK AT MOST 1048576: true; the input reads as it did. -/
def throttleFairUptoRow : OpenClaim := { program := "ytcdpffndpaldoaa", sum := "bca8630c293af86d4b99913f986e95d46b8a74756bd51760c97b9e0fa255c56c", func := "tegula/tegulalaw43.ThrottleFair", spec := "throttleFair", inPlace := ["sync/atomic.StoreInt64", "sync/atomic.LoadInt64", "sync/atomic.CompareAndSwapInt64"], unfollowed := true, recurses := true, apart := false, narrowed := true }
def ThrottleFairUptoSaid : Prop := throttleFairUptoRow.holds Try.pinned (OpenSpec.upto throttleFairSpec)

end Rows
end Go.Proofs.Ytcdpffndpaldoaa
