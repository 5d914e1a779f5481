/-
  No cell of these rows narrows 'for every input' (looked for: loops, veiled, ifaces, maps, wideKeys, modest, calm, conditions, laid).
  DERIVED. THE GIVEN ROWS OF THIS SEAT. 5 by the template 'for every input the law returns true; each argument reads behind the call as it read before'; 0 by the template 'total and deterministic' (their statements: YtgpjaocpdfcamaaTotals.lean).
  GIVEN WITH THE SEED: the statements are not yours to turn. If you find one false, say at which input.
  Laid BY PROGRAM, IN A SANDBOX (cutbox-rows.mjs): the forced cells as the released guide's own fill.sh prints them over the translation 614fadc2bc0d9864… (all of the seat's roots in one cut). By AI agents, Wed Nov 11 2026. No macro, syntax, notation, axiom, sorry.
-/
import Derived.Test.YtgpjaocpdfcamaaChecked
import GoSem.Claim
import GoSem.ClaimJoined
import GoSem.ClaimMapViews
import Derived.JoinedTies
import Derived.KernelRfl
namespace Go.Proofs.Ytgpjaocpdfcamaa
/- THE CELL 'sum', in the pinned program and in every row, IS THE sha256 OF THE DUMP (.gsa) THAT YtgpjaocpdfcamaaProg.lean LOADS. Nothing in Lean hashes anything: it is a label: what it is worth is what the hold of that sum in a sandbox is worth. -/
noncomputable def Try.pinned : Pinned := { name := "ytgpjaocpdfcamaa", sum := "614fadc2bc0d9864cdb3c03ada5b999f2012bc20ebe49ee8ccad39926760b892", checked := Try.checked }
namespace Rows
def none {H : Type} : Left H := { results := [], args := [] }

/-- 'tegulalaw19.WearLeast': WHATEVER THE INPUT: true; the input reads as it did. -/
def wearLeastSpec : ChangeSpec := { name := "wearLeast", fn := fun _ => fun
  | [d] => { results := [.lit (.bool true)], args := [d] }
  | _ => none }
def wearLeastRow : OpenClaim := { program := "ytgpjaocpdfcamaa", sum := "614fadc2bc0d9864cdb3c03ada5b999f2012bc20ebe49ee8ccad39926760b892", func := "tegula/tegulalaw19.WearLeast", spec := "wearLeast", apart := false }
def WearLeastSaid : Prop := wearLeastRow.holds Try.pinned (OpenSpec.ofChange wearLeastSpec)

/-- ITS FALSE NEIGHBOUR: 'it returns false'. Refute it at one input. -/
def wearLeastWrong : ChangeSpec := { name := "wearLeast", fn := fun _ => fun
  | [d] => { results := [.lit (.bool false)], args := [d] }
  | _ => none }
def WearLeastWrongFalsely : Prop := wearLeastRow.holds Try.pinned (OpenSpec.ofChange wearLeastWrong)

/-- 'tegulalaw19.WearSpread': WHATEVER THE INPUT: true; the input reads as it did. -/
def wearSpreadSpec : ChangeSpec := { name := "wearSpread", fn := fun _ => fun
  | [d] => { results := [.lit (.bool true)], args := [d] }
  | _ => none }
def wearSpreadRow : OpenClaim := { program := "ytgpjaocpdfcamaa", sum := "614fadc2bc0d9864cdb3c03ada5b999f2012bc20ebe49ee8ccad39926760b892", func := "tegula/tegulalaw19.WearSpread", spec := "wearSpread", apart := false }
def WearSpreadSaid : Prop := wearSpreadRow.holds Try.pinned (OpenSpec.ofChange wearSpreadSpec)

/-- ITS FALSE NEIGHBOUR: 'it returns false'. Refute it at one input. -/
def wearSpreadWrong : ChangeSpec := { name := "wearSpread", fn := fun _ => fun
  | [d] => { results := [.lit (.bool false)], args := [d] }
  | _ => none }
def WearSpreadWrongFalsely : Prop := wearSpreadRow.holds Try.pinned (OpenSpec.ofChange wearSpreadWrong)

/-- 'tegulalaw19.WearLevels': WHATEVER THE INPUT: true; the input reads as it did. -/
def wearLevelsSpec : ChangeSpec := { name := "wearLevels", fn := fun _ => fun
  | [d1, d2] => { results := [.lit (.bool true)], args := [d1, d2] }
  | _ => none }
def wearLevelsRow : OpenClaim := { program := "ytgpjaocpdfcamaa", sum := "614fadc2bc0d9864cdb3c03ada5b999f2012bc20ebe49ee8ccad39926760b892", func := "tegula/tegulalaw19.WearLevels", spec := "wearLevels", apart := false }
def WearLevelsSaid : Prop := wearLevelsRow.holds Try.pinned (OpenSpec.ofChange wearLevelsSpec)

/-- ITS FALSE NEIGHBOUR: 'it returns false'. Refute it at one input. -/
def wearLevelsWrong : ChangeSpec := { name := "wearLevels", fn := fun _ => fun
  | [d1, d2] => { results := [.lit (.bool false)], args := [d1, d2] }
  | _ => none }
def WearLevelsWrongFalsely : Prop := wearLevelsRow.holds Try.pinned (OpenSpec.ofChange wearLevelsWrong)

/-- 'tegulalaw19.WearErasure': WHATEVER THE INPUT: true; the input reads as it did. -/
def wearErasureSpec : ChangeSpec := { name := "wearErasure", fn := fun _ => fun
  | [d1, d2] => { results := [.lit (.bool true)], args := [d1, d2] }
  | _ => none }
def wearErasureRow : OpenClaim := { program := "ytgpjaocpdfcamaa", sum := "614fadc2bc0d9864cdb3c03ada5b999f2012bc20ebe49ee8ccad39926760b892", func := "tegula/tegulalaw19.WearErasure", spec := "wearErasure", apart := false }
def WearErasureSaid : Prop := wearErasureRow.holds Try.pinned (OpenSpec.ofChange wearErasureSpec)

/-- ITS FALSE NEIGHBOUR: 'it returns false'. Refute it at one input. -/
def wearErasureWrong : ChangeSpec := { name := "wearErasure", fn := fun _ => fun
  | [d1, d2] => { results := [.lit (.bool false)], args := [d1, d2] }
  | _ => none }
def WearErasureWrongFalsely : Prop := wearErasureRow.holds Try.pinned (OpenSpec.ofChange wearErasureWrong)

/-- 'tegulalaw19.WearChosen': WHATEVER THE INPUT: true; the input reads as it did. -/
def wearChosenSpec : ChangeSpec := { name := "wearChosen", fn := fun _ => fun
  | [d] => { results := [.lit (.bool true)], args := [d] }
  | _ => none }
def wearChosenRow : OpenClaim := { program := "ytgpjaocpdfcamaa", sum := "614fadc2bc0d9864cdb3c03ada5b999f2012bc20ebe49ee8ccad39926760b892", func := "tegula/tegulalaw19.WearChosen", spec := "wearChosen", apart := false }
def WearChosenSaid : Prop := wearChosenRow.holds Try.pinned (OpenSpec.ofChange wearChosenSpec)

/-- ITS FALSE NEIGHBOUR: 'it returns false'. Refute it at one input. -/
def wearChosenWrong : ChangeSpec := { name := "wearChosen", fn := fun _ => fun
  | [d] => { results := [.lit (.bool false)], args := [d] }
  | _ => none }
def WearChosenWrongFalsely : Prop := wearChosenRow.holds Try.pinned (OpenSpec.ofChange wearChosenWrong)

/- THE SECOND FORM. 'bulk': how many values and letters a reading holds, each counted each time it is reached (what is shared counts as often as it is met; a slice's spare places count too). A statement '..UptoSaid' is the law's where the arguments, and the package variables that the reading takes, are together of bulk at most 1048576: NARROWER than '..Said'. Prove '..Said' where nothing that the law and all that it calls make is longer than what came in: it says more and counts as full. Else prove '..UptoSaid'. A law counts once. -/
mutual
def uptoBulk {H : Type} : DataW H → Nat
  | .lit (.string bytes) => bytes.length + 1
  | .lit _ => 1
  | .nil => 1
  | .ptr d => uptoBulk d + 1
  | .slice elems spare => uptoBulkAll elems + uptoBulkAll spare + 1
  | .agg parts => uptoBulkAll parts + 1
  | .iface _ d => uptoBulk d + 1
  | .map entries => uptoBulkEntries entries + 1
  | .held _ => 1
def uptoBulkAll {H : Type} : List (DataW H) → Nat
  | [] => 0
  | d :: r => uptoBulk d + uptoBulkAll r
def uptoBulkEntries {H : Type} : List (Lit × DataW H) → Nat
  | [] => 0
  | x :: r => uptoBulkEntry x + uptoBulkEntries r
def uptoBulkEntry {H : Type} : Lit × DataW H → Nat
  | (.string bytes, d) => bytes.length + uptoBulk d + 1
  | (_, d) => uptoBulk d + 1
 end
def uptoSmall : (H : Type) → List (DataW H) → Bool := fun _ ds => decide (uptoBulkAll ds ≤ 1048576)
def OpenSpec.upto (s : _root_.Go.ChangeSpec) : _root_.Go.OpenSpec := { _root_.Go.OpenSpec.ofChange s with cond := some uptoSmall }

/-- 'tegulalaw19.WearLeast', WHERE WHAT IT READS IS OF BULK AT MOST 1048576: true; the input reads as it did. -/
def wearLeastUptoRow : OpenClaim := { program := "ytgpjaocpdfcamaa", sum := "614fadc2bc0d9864cdb3c03ada5b999f2012bc20ebe49ee8ccad39926760b892", func := "tegula/tegulalaw19.WearLeast", spec := "wearLeast", apart := false, narrowed := true }
def WearLeastUptoSaid : Prop := wearLeastUptoRow.holds Try.pinned (OpenSpec.upto wearLeastSpec)

/-- 'tegulalaw19.WearSpread', WHERE WHAT IT READS IS OF BULK AT MOST 1048576: true; the input reads as it did. -/
def wearSpreadUptoRow : OpenClaim := { program := "ytgpjaocpdfcamaa", sum := "614fadc2bc0d9864cdb3c03ada5b999f2012bc20ebe49ee8ccad39926760b892", func := "tegula/tegulalaw19.WearSpread", spec := "wearSpread", apart := false, narrowed := true }
def WearSpreadUptoSaid : Prop := wearSpreadUptoRow.holds Try.pinned (OpenSpec.upto wearSpreadSpec)

/-- 'tegulalaw19.WearLevels', WHERE WHAT IT READS IS OF BULK AT MOST 1048576: true; the input reads as it did. -/
def wearLevelsUptoRow : OpenClaim := { program := "ytgpjaocpdfcamaa", sum := "614fadc2bc0d9864cdb3c03ada5b999f2012bc20ebe49ee8ccad39926760b892", func := "tegula/tegulalaw19.WearLevels", spec := "wearLevels", apart := false, narrowed := true }
def WearLevelsUptoSaid : Prop := wearLevelsUptoRow.holds Try.pinned (OpenSpec.upto wearLevelsSpec)

/-- 'tegulalaw19.WearErasure', WHERE WHAT IT READS IS OF BULK AT MOST 1048576: true; the input reads as it did. -/
def wearErasureUptoRow : OpenClaim := { program := "ytgpjaocpdfcamaa", sum := "614fadc2bc0d9864cdb3c03ada5b999f2012bc20ebe49ee8ccad39926760b892", func := "tegula/tegulalaw19.WearErasure", spec := "wearErasure", apart := false, narrowed := true }
def WearErasureUptoSaid : Prop := wearErasureUptoRow.holds Try.pinned (OpenSpec.upto wearErasureSpec)

/-- 'tegulalaw19.WearChosen', WHERE WHAT IT READS IS OF BULK AT MOST 1048576: true; the input reads as it did. -/
def wearChosenUptoRow : OpenClaim := { program := "ytgpjaocpdfcamaa", sum := "614fadc2bc0d9864cdb3c03ada5b999f2012bc20ebe49ee8ccad39926760b892", func := "tegula/tegulalaw19.WearChosen", spec := "wearChosen", apart := false, narrowed := true }
def WearChosenUptoSaid : Prop := wearChosenUptoRow.holds Try.pinned (OpenSpec.upto wearChosenSpec)

end Rows
end Go.Proofs.Ytgpjaocpdfcamaa
