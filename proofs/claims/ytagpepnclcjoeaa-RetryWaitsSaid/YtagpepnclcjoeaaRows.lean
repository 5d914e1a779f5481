/-
  No cell of these rows narrows 'for every input' (looked for: loops, veiled, ifaces, maps, wideKeys, modest, calm, conditions, laid).
  DERIVED. THE GIVEN ROWS OF THIS SEAT. 6 by the template 'for every input the law returns true; each argument reads behind the call as it read before'; 0 by the template 'total and deterministic' (their statements: YtagpepnclcjoeaaTotals.lean).
  GIVEN WITH THE SEED: the statements are not yours to turn. If you find one false, say at which input.
  Laid BY PROGRAM, IN A SANDBOX (cutbox-rows.mjs): the forced cells as the released guide's own fill.sh prints them over the translation c07063362aa585c1… (all of the seat's roots in one cut). By AI agents, Wed Nov 11 2026. No macro, syntax, notation, axiom, sorry.
-/
import Derived.Test.YtagpepnclcjoeaaChecked
import GoSem.Claim
import GoSem.ClaimJoined
import GoSem.ClaimMapViews
import Derived.JoinedTies
import Derived.KernelRfl
namespace Go.Proofs.Ytagpepnclcjoeaa
/- THE CELL 'sum', in the pinned program and in every row, IS THE sha256 OF THE DUMP (.gsa) THAT YtagpepnclcjoeaaProg.lean LOADS. Nothing in Lean hashes anything: it is a label: what it is worth is what the hold of that sum in a sandbox is worth. -/
noncomputable def Try.pinned : Pinned := { name := "ytagpepnclcjoeaa", sum := "c07063362aa585c15b8f4e1ca78b9c4157f44b623c19eb1e444a3829ab8085b7", checked := Try.checked }
namespace Rows
def none {H : Type} : Left H := { results := [], args := [] }

/-- 'tegulalaw42.RetryResult': WHATEVER THE INPUT: true; the input reads as it did. -/
def retryResultSpec : ChangeSpec := { name := "retryResult", fn := fun _ => fun
  | [d1, d2] => { results := [.lit (.bool true)], args := [d1, d2] }
  | _ => none }
def retryResultRow : OpenClaim := { program := "ytagpepnclcjoeaa", sum := "c07063362aa585c15b8f4e1ca78b9c4157f44b623c19eb1e444a3829ab8085b7", func := "tegula/tegulalaw42.RetryResult", spec := "retryResult", apart := false }
def RetryResultSaid : Prop := retryResultRow.holds Try.pinned (OpenSpec.ofChange retryResultSpec)

/-- ITS FALSE NEIGHBOUR: 'it returns false'. Refute it at one input. -/
def retryResultWrong : ChangeSpec := { name := "retryResult", fn := fun _ => fun
  | [d1, d2] => { results := [.lit (.bool false)], args := [d1, d2] }
  | _ => none }
def RetryResultWrongFalsely : Prop := retryResultRow.holds Try.pinned (OpenSpec.ofChange retryResultWrong)

/-- 'tegulalaw42.RetryFinal': WHATEVER THE INPUT: true; the input reads as it did. -/
def retryFinalSpec : ChangeSpec := { name := "retryFinal", fn := fun _ => fun
  | [d1, d2] => { results := [.lit (.bool true)], args := [d1, d2] }
  | _ => none }
def retryFinalRow : OpenClaim := { program := "ytagpepnclcjoeaa", sum := "c07063362aa585c15b8f4e1ca78b9c4157f44b623c19eb1e444a3829ab8085b7", func := "tegula/tegulalaw42.RetryFinal", spec := "retryFinal", apart := false }
def RetryFinalSaid : Prop := retryFinalRow.holds Try.pinned (OpenSpec.ofChange retryFinalSpec)

/-- ITS FALSE NEIGHBOUR: 'it returns false'. Refute it at one input. -/
def retryFinalWrong : ChangeSpec := { name := "retryFinal", fn := fun _ => fun
  | [d1, d2] => { results := [.lit (.bool false)], args := [d1, d2] }
  | _ => none }
def RetryFinalWrongFalsely : Prop := retryFinalRow.holds Try.pinned (OpenSpec.ofChange retryFinalWrong)

/-- 'tegulalaw42.RetryWaits': WHATEVER THE INPUT: true; the input reads as it did. -/
def retryWaitsSpec : ChangeSpec := { name := "retryWaits", fn := fun _ => fun
  | [d] => { results := [.lit (.bool true)], args := [d] }
  | _ => none }
def retryWaitsRow : OpenClaim := { program := "ytagpepnclcjoeaa", sum := "c07063362aa585c15b8f4e1ca78b9c4157f44b623c19eb1e444a3829ab8085b7", func := "tegula/tegulalaw42.RetryWaits", spec := "retryWaits", apart := false }
def RetryWaitsSaid : Prop := retryWaitsRow.holds Try.pinned (OpenSpec.ofChange retryWaitsSpec)

/-- ITS FALSE NEIGHBOUR: 'it returns false'. Refute it at one input. -/
def retryWaitsWrong : ChangeSpec := { name := "retryWaits", fn := fun _ => fun
  | [d] => { results := [.lit (.bool false)], args := [d] }
  | _ => none }
def RetryWaitsWrongFalsely : Prop := retryWaitsRow.holds Try.pinned (OpenSpec.ofChange retryWaitsWrong)

/-- 'tegulalaw42.RetryTick': WHATEVER THE INPUT: true; the input reads as it did. -/
def retryTickSpec : ChangeSpec := { name := "retryTick", fn := fun _ => fun
  | [d] => { results := [.lit (.bool true)], args := [d] }
  | _ => none }
def retryTickRow : OpenClaim := { program := "ytagpepnclcjoeaa", sum := "c07063362aa585c15b8f4e1ca78b9c4157f44b623c19eb1e444a3829ab8085b7", func := "tegula/tegulalaw42.RetryTick", spec := "retryTick", apart := false }
def RetryTickSaid : Prop := retryTickRow.holds Try.pinned (OpenSpec.ofChange retryTickSpec)

/-- ITS FALSE NEIGHBOUR: 'it returns false'. Refute it at one input. -/
def retryTickWrong : ChangeSpec := { name := "retryTick", fn := fun _ => fun
  | [d] => { results := [.lit (.bool false)], args := [d] }
  | _ => none }
def RetryTickWrongFalsely : Prop := retryTickRow.holds Try.pinned (OpenSpec.ofChange retryTickWrong)

/-- 'tegulalaw42.RetryLongest': WHATEVER THE INPUT: true; the input reads as it did. -/
def retryLongestSpec : ChangeSpec := { name := "retryLongest", fn := fun _ => fun
  | [d] => { results := [.lit (.bool true)], args := [d] }
  | _ => none }
def retryLongestRow : OpenClaim := { program := "ytagpepnclcjoeaa", sum := "c07063362aa585c15b8f4e1ca78b9c4157f44b623c19eb1e444a3829ab8085b7", func := "tegula/tegulalaw42.RetryLongest", spec := "retryLongest", apart := false }
def RetryLongestSaid : Prop := retryLongestRow.holds Try.pinned (OpenSpec.ofChange retryLongestSpec)

/-- ITS FALSE NEIGHBOUR: 'it returns false'. Refute it at one input. -/
def retryLongestWrong : ChangeSpec := { name := "retryLongest", fn := fun _ => fun
  | [d] => { results := [.lit (.bool false)], args := [d] }
  | _ => none }
def RetryLongestWrongFalsely : Prop := retryLongestRow.holds Try.pinned (OpenSpec.ofChange retryLongestWrong)

/-- 'tegulalaw42.RetryEnds': WHATEVER THE INPUT: true; the input reads as it did. -/
def retryEndsSpec : ChangeSpec := { name := "retryEnds", fn := fun _ => fun
  | [d] => { results := [.lit (.bool true)], args := [d] }
  | _ => none }
def retryEndsRow : OpenClaim := { program := "ytagpepnclcjoeaa", sum := "c07063362aa585c15b8f4e1ca78b9c4157f44b623c19eb1e444a3829ab8085b7", func := "tegula/tegulalaw42.RetryEnds", spec := "retryEnds", apart := false }
def RetryEndsSaid : Prop := retryEndsRow.holds Try.pinned (OpenSpec.ofChange retryEndsSpec)

/-- ITS FALSE NEIGHBOUR: 'it returns false'. Refute it at one input. -/
def retryEndsWrong : ChangeSpec := { name := "retryEnds", fn := fun _ => fun
  | [d] => { results := [.lit (.bool false)], args := [d] }
  | _ => none }
def RetryEndsWrongFalsely : Prop := retryEndsRow.holds Try.pinned (OpenSpec.ofChange retryEndsWrong)

/- THE SECOND FORM. 'bulk': how many values and letters a reading holds, each counted each time it is reached (what is shared counts as often as it is met; a slice's spare places count too). A statement '..UptoSaid' is the law's where the arguments, and the package variables that the reading takes, are together of bulk at most 1048576: NARROWER than '..Said'. Prove '..Said' where nothing that the law and all that it calls make is longer than what came in: it says more and counts as full. Else prove '..UptoSaid'. A law counts once. -/
mutual
def uptoBulk {H : Type} : DataW H → Nat
  | .lit (.string bytes) => bytes.length + 1
  | .lit _ => 1
  | .nil => 1
  | .ptr d => uptoBulk d + 1
  | .slice elems spare => uptoBulkAll elems + uptoBulkAll spare + 1
  | .agg parts => uptoBulkAll parts + 1
  | .iface _ d => uptoBulk d + 1
  | .map entries => uptoBulkEntries entries + 1
  | .held _ => 1
def uptoBulkAll {H : Type} : List (DataW H) → Nat
  | [] => 0
  | d :: r => uptoBulk d + uptoBulkAll r
def uptoBulkEntries {H : Type} : List (Lit × DataW H) → Nat
  | [] => 0
  | x :: r => uptoBulkEntry x + uptoBulkEntries r
def uptoBulkEntry {H : Type} : Lit × DataW H → Nat
  | (.string bytes, d) => bytes.length + uptoBulk d + 1
  | (_, d) => uptoBulk d + 1
 end
def uptoSmall : (H : Type) → List (DataW H) → Bool := fun _ ds => decide (uptoBulkAll ds ≤ 1048576)
def OpenSpec.upto (s : _root_.Go.ChangeSpec) : _root_.Go.OpenSpec := { _root_.Go.OpenSpec.ofChange s with cond := some uptoSmall }

/-- 'tegulalaw42.RetryResult', WHERE WHAT IT READS IS OF BULK AT MOST 1048576: true; the input reads as it did. -/
def retryResultUptoRow : OpenClaim := { program := "ytagpepnclcjoeaa", sum := "c07063362aa585c15b8f4e1ca78b9c4157f44b623c19eb1e444a3829ab8085b7", func := "tegula/tegulalaw42.RetryResult", spec := "retryResult", apart := false, narrowed := true }
def RetryResultUptoSaid : Prop := retryResultUptoRow.holds Try.pinned (OpenSpec.upto retryResultSpec)

/-- 'tegulalaw42.RetryFinal', WHERE WHAT IT READS IS OF BULK AT MOST 1048576: true; the input reads as it did. -/
def retryFinalUptoRow : OpenClaim := { program := "ytagpepnclcjoeaa", sum := "c07063362aa585c15b8f4e1ca78b9c4157f44b623c19eb1e444a3829ab8085b7", func := "tegula/tegulalaw42.RetryFinal", spec := "retryFinal", apart := false, narrowed := true }
def RetryFinalUptoSaid : Prop := retryFinalUptoRow.holds Try.pinned (OpenSpec.upto retryFinalSpec)

/-- 'tegulalaw42.RetryWaits', WHERE WHAT IT READS IS OF BULK AT MOST 1048576: true; the input reads as it did. -/
def retryWaitsUptoRow : OpenClaim := { program := "ytagpepnclcjoeaa", sum := "c07063362aa585c15b8f4e1ca78b9c4157f44b623c19eb1e444a3829ab8085b7", func := "tegula/tegulalaw42.RetryWaits", spec := "retryWaits", apart := false, narrowed := true }
def RetryWaitsUptoSaid : Prop := retryWaitsUptoRow.holds Try.pinned (OpenSpec.upto retryWaitsSpec)

/-- 'tegulalaw42.RetryTick', WHERE WHAT IT READS IS OF BULK AT MOST 1048576: true; the input reads as it did. -/
def retryTickUptoRow : OpenClaim := { program := "ytagpepnclcjoeaa", sum := "c07063362aa585c15b8f4e1ca78b9c4157f44b623c19eb1e444a3829ab8085b7", func := "tegula/tegulalaw42.RetryTick", spec := "retryTick", apart := false, narrowed := true }
def RetryTickUptoSaid : Prop := retryTickUptoRow.holds Try.pinned (OpenSpec.upto retryTickSpec)

/-- 'tegulalaw42.RetryLongest', WHERE WHAT IT READS IS OF BULK AT MOST 1048576: true; the input reads as it did. -/
def retryLongestUptoRow : OpenClaim := { program := "ytagpepnclcjoeaa", sum := "c07063362aa585c15b8f4e1ca78b9c4157f44b623c19eb1e444a3829ab8085b7", func := "tegula/tegulalaw42.RetryLongest", spec := "retryLongest", apart := false, narrowed := true }
def RetryLongestUptoSaid : Prop := retryLongestUptoRow.holds Try.pinned (OpenSpec.upto retryLongestSpec)

/-- 'tegulalaw42.RetryEnds', WHERE WHAT IT READS IS OF BULK AT MOST 1048576: true; the input reads as it did. -/
def retryEndsUptoRow : OpenClaim := { program := "ytagpepnclcjoeaa", sum := "c07063362aa585c15b8f4e1ca78b9c4157f44b623c19eb1e444a3829ab8085b7", func := "tegula/tegulalaw42.RetryEnds", spec := "retryEnds", apart := false, narrowed := true }
def RetryEndsUptoSaid : Prop := retryEndsUptoRow.holds Try.pinned (OpenSpec.upto retryEndsSpec)

end Rows
end Go.Proofs.Ytagpepnclcjoeaa
