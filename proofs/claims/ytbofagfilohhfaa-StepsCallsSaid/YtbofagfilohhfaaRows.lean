/-
  No cell of these rows narrows 'for every input' (looked for: loops, veiled, ifaces, maps, wideKeys, modest, calm, conditions, laid).
  DERIVED. THE GIVEN ROWS OF THIS SEAT. 6 by the template 'for every input the law returns true; each argument reads behind the call as it read before'; 0 by the template 'total and deterministic' (their statements: YtbofagfilohhfaaTotals.lean).
  GIVEN WITH THE SEED: the statements are not yours to turn. If you find one false, say at which input.
  Laid BY PROGRAM, IN A SANDBOX (cutbox-rows.mjs): the forced cells as the released guide's own fill.sh prints them over the translation c2141dbbb748fd37… (all of the seat's roots in one cut). By AI agents, Wed Nov 11 2026. No macro, syntax, notation, axiom, sorry.
-/
import Derived.Test.YtbofagfilohhfaaChecked
import GoSem.Claim
import GoSem.ClaimJoined
import GoSem.ClaimMapViews
import Derived.JoinedTies
import Derived.KernelRfl
namespace Go.Proofs.Ytbofagfilohhfaa
/- THE CELL 'sum', in the pinned program and in every row, IS THE sha256 OF THE DUMP (.gsa) THAT YtbofagfilohhfaaProg.lean LOADS. Nothing in Lean hashes anything: it is a label: what it is worth is what the hold of that sum in a sandbox is worth. -/
noncomputable def Try.pinned : Pinned := { name := "ytbofagfilohhfaa", sum := "c2141dbbb748fd376159fae7b3ade9b1958a1c7ef91755f7887372646c5de7f0", checked := Try.checked }
namespace Rows
def none {H : Type} : Left H := { results := [], args := [] }

/-- 'tegulalaw44.StepsLimits': WHATEVER THE INPUT: true; the input reads as it did. -/
def stepsLimitsSpec : ChangeSpec := { name := "stepsLimits", fn := fun _ => fun
  | [d1, d2] => { results := [.lit (.bool true)], args := [d1, d2] }
  | _ => none }
def stepsLimitsRow : OpenClaim := { program := "ytbofagfilohhfaa", sum := "c2141dbbb748fd376159fae7b3ade9b1958a1c7ef91755f7887372646c5de7f0", func := "tegula/tegulalaw44.StepsLimits", spec := "stepsLimits", unfollowed := true, recurses := true, apart := false }
def StepsLimitsSaid : Prop := stepsLimitsRow.holds Try.pinned (OpenSpec.ofChange stepsLimitsSpec)

/-- ITS FALSE NEIGHBOUR: 'it returns false'. Refute it at one input. -/
def stepsLimitsWrong : ChangeSpec := { name := "stepsLimits", fn := fun _ => fun
  | [d1, d2] => { results := [.lit (.bool false)], args := [d1, d2] }
  | _ => none }
def StepsLimitsWrongFalsely : Prop := stepsLimitsRow.holds Try.pinned (OpenSpec.ofChange stepsLimitsWrong)

/-- 'tegulalaw44.StepsEnds': WHATEVER THE INPUT: true; the input reads as it did. -/
def stepsEndsSpec : ChangeSpec := { name := "stepsEnds", fn := fun _ => fun
  | [d1, d2] => { results := [.lit (.bool true)], args := [d1, d2] }
  | _ => none }
def stepsEndsRow : OpenClaim := { program := "ytbofagfilohhfaa", sum := "c2141dbbb748fd376159fae7b3ade9b1958a1c7ef91755f7887372646c5de7f0", func := "tegula/tegulalaw44.StepsEnds", spec := "stepsEnds", unfollowed := true, recurses := true, apart := false }
def StepsEndsSaid : Prop := stepsEndsRow.holds Try.pinned (OpenSpec.ofChange stepsEndsSpec)

/-- ITS FALSE NEIGHBOUR: 'it returns false'. Refute it at one input. -/
def stepsEndsWrong : ChangeSpec := { name := "stepsEnds", fn := fun _ => fun
  | [d1, d2] => { results := [.lit (.bool false)], args := [d1, d2] }
  | _ => none }
def StepsEndsWrongFalsely : Prop := stepsEndsRow.holds Try.pinned (OpenSpec.ofChange stepsEndsWrong)

/-- 'tegulalaw44.StepsFair': WHATEVER THE INPUT: true; the input reads as it did. -/
def stepsFairSpec : ChangeSpec := { name := "stepsFair", fn := fun _ => fun
  | [d1, d2] => { results := [.lit (.bool true)], args := [d1, d2] }
  | _ => none }
def stepsFairRow : OpenClaim := { program := "ytbofagfilohhfaa", sum := "c2141dbbb748fd376159fae7b3ade9b1958a1c7ef91755f7887372646c5de7f0", func := "tegula/tegulalaw44.StepsFair", spec := "stepsFair", unfollowed := true, recurses := true, apart := false }
def StepsFairSaid : Prop := stepsFairRow.holds Try.pinned (OpenSpec.ofChange stepsFairSpec)

/-- ITS FALSE NEIGHBOUR: 'it returns false'. Refute it at one input. -/
def stepsFairWrong : ChangeSpec := { name := "stepsFair", fn := fun _ => fun
  | [d1, d2] => { results := [.lit (.bool false)], args := [d1, d2] }
  | _ => none }
def StepsFairWrongFalsely : Prop := stepsFairRow.holds Try.pinned (OpenSpec.ofChange stepsFairWrong)

/-- 'tegulalaw44.StepsOne': WHATEVER THE INPUT: true; the input reads as it did. -/
def stepsOneSpec : ChangeSpec := { name := "stepsOne", fn := fun _ => fun
  | [d1, d2] => { results := [.lit (.bool true)], args := [d1, d2] }
  | _ => none }
def stepsOneRow : OpenClaim := { program := "ytbofagfilohhfaa", sum := "c2141dbbb748fd376159fae7b3ade9b1958a1c7ef91755f7887372646c5de7f0", func := "tegula/tegulalaw44.StepsOne", spec := "stepsOne", unfollowed := true, recurses := true, apart := false }
def StepsOneSaid : Prop := stepsOneRow.holds Try.pinned (OpenSpec.ofChange stepsOneSpec)

/-- ITS FALSE NEIGHBOUR: 'it returns false'. Refute it at one input. -/
def stepsOneWrong : ChangeSpec := { name := "stepsOne", fn := fun _ => fun
  | [d1, d2] => { results := [.lit (.bool false)], args := [d1, d2] }
  | _ => none }
def StepsOneWrongFalsely : Prop := stepsOneRow.holds Try.pinned (OpenSpec.ofChange stepsOneWrong)

/-- 'tegulalaw44.StepsCalls': WHATEVER THE INPUT: true; the input reads as it did. -/
def stepsCallsSpec : ChangeSpec := { name := "stepsCalls", fn := fun _ => fun
  | [d] => { results := [.lit (.bool true)], args := [d] }
  | _ => none }
def stepsCallsRow : OpenClaim := { program := "ytbofagfilohhfaa", sum := "c2141dbbb748fd376159fae7b3ade9b1958a1c7ef91755f7887372646c5de7f0", func := "tegula/tegulalaw44.StepsCalls", spec := "stepsCalls", unfollowed := true, recurses := true, apart := false }
def StepsCallsSaid : Prop := stepsCallsRow.holds Try.pinned (OpenSpec.ofChange stepsCallsSpec)

/-- ITS FALSE NEIGHBOUR: 'it returns false'. Refute it at one input. -/
def stepsCallsWrong : ChangeSpec := { name := "stepsCalls", fn := fun _ => fun
  | [d] => { results := [.lit (.bool false)], args := [d] }
  | _ => none }
def StepsCallsWrongFalsely : Prop := stepsCallsRow.holds Try.pinned (OpenSpec.ofChange stepsCallsWrong)

/-- 'tegulalaw44.StepsNil': WHATEVER THE INPUT: true; the input reads as it did. -/
def stepsNilSpec : ChangeSpec := { name := "stepsNil", fn := fun _ => fun
  | [d] => { results := [.lit (.bool true)], args := [d] }
  | _ => none }
def stepsNilRow : OpenClaim := { program := "ytbofagfilohhfaa", sum := "c2141dbbb748fd376159fae7b3ade9b1958a1c7ef91755f7887372646c5de7f0", func := "tegula/tegulalaw44.StepsNil", spec := "stepsNil", unfollowed := true, recurses := true, apart := false }
def StepsNilSaid : Prop := stepsNilRow.holds Try.pinned (OpenSpec.ofChange stepsNilSpec)

/-- ITS FALSE NEIGHBOUR: 'it returns false'. Refute it at one input. -/
def stepsNilWrong : ChangeSpec := { name := "stepsNil", fn := fun _ => fun
  | [d] => { results := [.lit (.bool false)], args := [d] }
  | _ => none }
def StepsNilWrongFalsely : Prop := stepsNilRow.holds Try.pinned (OpenSpec.ofChange stepsNilWrong)

/- THE SECOND FORM. 'bulk': how many values and letters a reading holds, each counted each time it is reached (what is shared counts as often as it is met; a slice's spare places count too). A statement '..UptoSaid' is the law's where the arguments, and the package variables that the reading takes, are together of bulk at most 1048576: NARROWER than '..Said'. Prove '..Said' where nothing that the law and all that it calls make is longer than what came in: it says more and counts as full. Else prove '..UptoSaid'. A law counts once. -/
mutual
def uptoBulk {H : Type} : DataW H → Nat
  | .lit (.string bytes) => bytes.length + 1
  | .lit _ => 1
  | .nil => 1
  | .ptr d => uptoBulk d + 1
  | .slice elems spare => uptoBulkAll elems + uptoBulkAll spare + 1
  | .agg parts => uptoBulkAll parts + 1
  | .iface _ d => uptoBulk d + 1
  | .map entries => uptoBulkEntries entries + 1
  | .held _ => 1
def uptoBulkAll {H : Type} : List (DataW H) → Nat
  | [] => 0
  | d :: r => uptoBulk d + uptoBulkAll r
def uptoBulkEntries {H : Type} : List (Lit × DataW H) → Nat
  | [] => 0
  | x :: r => uptoBulkEntry x + uptoBulkEntries r
def uptoBulkEntry {H : Type} : Lit × DataW H → Nat
  | (.string bytes, d) => bytes.length + uptoBulk d + 1
  | (_, d) => uptoBulk d + 1
 end
def uptoSmall : (H : Type) → List (DataW H) → Bool := fun _ ds => decide (uptoBulkAll ds ≤ 1048576)
def OpenSpec.upto (s : _root_.Go.ChangeSpec) : _root_.Go.OpenSpec := { _root_.Go.OpenSpec.ofChange s with cond := some uptoSmall }

/-- 'tegulalaw44.StepsLimits', WHERE WHAT IT READS IS OF BULK AT MOST 1048576: true; the input reads as it did. -/
def stepsLimitsUptoRow : OpenClaim := { program := "ytbofagfilohhfaa", sum := "c2141dbbb748fd376159fae7b3ade9b1958a1c7ef91755f7887372646c5de7f0", func := "tegula/tegulalaw44.StepsLimits", spec := "stepsLimits", unfollowed := true, recurses := true, apart := false, narrowed := true }
def StepsLimitsUptoSaid : Prop := stepsLimitsUptoRow.holds Try.pinned (OpenSpec.upto stepsLimitsSpec)

/-- 'tegulalaw44.StepsEnds', WHERE WHAT IT READS IS OF BULK AT MOST 1048576: true; the input reads as it did. -/
def stepsEndsUptoRow : OpenClaim := { program := "ytbofagfilohhfaa", sum := "c2141dbbb748fd376159fae7b3ade9b1958a1c7ef91755f7887372646c5de7f0", func := "tegula/tegulalaw44.StepsEnds", spec := "stepsEnds", unfollowed := true, recurses := true, apart := false, narrowed := true }
def StepsEndsUptoSaid : Prop := stepsEndsUptoRow.holds Try.pinned (OpenSpec.upto stepsEndsSpec)

/-- 'tegulalaw44.StepsFair', WHERE WHAT IT READS IS OF BULK AT MOST 1048576: true; the input reads as it did. -/
def stepsFairUptoRow : OpenClaim := { program := "ytbofagfilohhfaa", sum := "c2141dbbb748fd376159fae7b3ade9b1958a1c7ef91755f7887372646c5de7f0", func := "tegula/tegulalaw44.StepsFair", spec := "stepsFair", unfollowed := true, recurses := true, apart := false, narrowed := true }
def StepsFairUptoSaid : Prop := stepsFairUptoRow.holds Try.pinned (OpenSpec.upto stepsFairSpec)

/-- 'tegulalaw44.StepsOne', WHERE WHAT IT READS IS OF BULK AT MOST 1048576: true; the input reads as it did. -/
def stepsOneUptoRow : OpenClaim := { program := "ytbofagfilohhfaa", sum := "c2141dbbb748fd376159fae7b3ade9b1958a1c7ef91755f7887372646c5de7f0", func := "tegula/tegulalaw44.StepsOne", spec := "stepsOne", unfollowed := true, recurses := true, apart := false, narrowed := true }
def StepsOneUptoSaid : Prop := stepsOneUptoRow.holds Try.pinned (OpenSpec.upto stepsOneSpec)

/-- 'tegulalaw44.StepsCalls', WHERE WHAT IT READS IS OF BULK AT MOST 1048576: true; the input reads as it did. -/
def stepsCallsUptoRow : OpenClaim := { program := "ytbofagfilohhfaa", sum := "c2141dbbb748fd376159fae7b3ade9b1958a1c7ef91755f7887372646c5de7f0", func := "tegula/tegulalaw44.StepsCalls", spec := "stepsCalls", unfollowed := true, recurses := true, apart := false, narrowed := true }
def StepsCallsUptoSaid : Prop := stepsCallsUptoRow.holds Try.pinned (OpenSpec.upto stepsCallsSpec)

/-- 'tegulalaw44.StepsNil', WHERE WHAT IT READS IS OF BULK AT MOST 1048576: true; the input reads as it did. -/
def stepsNilUptoRow : OpenClaim := { program := "ytbofagfilohhfaa", sum := "c2141dbbb748fd376159fae7b3ade9b1958a1c7ef91755f7887372646c5de7f0", func := "tegula/tegulalaw44.StepsNil", spec := "stepsNil", unfollowed := true, recurses := true, apart := false, narrowed := true }
def StepsNilUptoSaid : Prop := stepsNilUptoRow.holds Try.pinned (OpenSpec.upto stepsNilSpec)

end Rows
end Go.Proofs.Ytbofagfilohhfaa
