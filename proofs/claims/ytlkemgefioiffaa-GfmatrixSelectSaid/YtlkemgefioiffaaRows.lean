/-
  No cell of these rows narrows 'for every input' (looked for: loops, veiled, ifaces, maps, wideKeys, modest, calm, conditions, laid).
  DERIVED. THE GIVEN ROWS OF THIS SEAT. 8 by the template 'for every input the law returns true; each argument reads behind the call as it read before'; 0 by the template 'total and deterministic' (their statements: YtlkemgefioiffaaTotals.lean).
  GIVEN WITH THE SEED: the statements are not yours to turn. If you find one false, say at which input.
  Laid BY PROGRAM, IN A SANDBOX (cutbox-rows.mjs): the forced cells as the released guide's own fill.sh prints them over the translation c6495b11f3b95f50… (all of the seat's roots in one cut). By AI agents, Wed Nov 11 2026. No macro, syntax, notation, axiom, sorry.
-/
import Derived.Test.YtlkemgefioiffaaChecked
import GoSem.Claim
import GoSem.ClaimJoined
import GoSem.ClaimMapViews
import Derived.JoinedTies
import Derived.KernelRfl
namespace Go.Proofs.Ytlkemgefioiffaa
/- THE CELL 'sum', in the pinned program and in every row, IS THE sha256 OF THE DUMP (.gsa) THAT YtlkemgefioiffaaProg.lean LOADS. Nothing in Lean hashes anything: it is a label: what it is worth is what the hold of that sum in a sandbox is worth. -/
noncomputable def Try.pinned : Pinned := { name := "ytlkemgefioiffaa", sum := "c6495b11f3b95f5048d9190ad14e9ee57466cf4e951b35a81bb6ecd1da496bb3", checked := Try.checked }
namespace Rows
def none {H : Type} : Left H := { results := [], args := [] }

/-- 'tegulalaw02.GfmatrixInverse': WHATEVER THE INPUT: true; the input reads as it did. -/
def gfmatrixInverseSpec : ChangeSpec := { name := "gfmatrixInverse", fn := fun _ => fun
  | [d] => { results := [.lit (.bool true)], args := [d] }
  | _ => none }
def gfmatrixInverseRow : OpenClaim := { program := "ytlkemgefioiffaa", sum := "c6495b11f3b95f5048d9190ad14e9ee57466cf4e951b35a81bb6ecd1da496bb3", func := "tegula/tegulalaw02.GfmatrixInverse", spec := "gfmatrixInverse", unfollowed := true, recurses := true, apart := false }
def GfmatrixInverseSaid : Prop := gfmatrixInverseRow.holds Try.pinned (OpenSpec.ofChange gfmatrixInverseSpec)

/-- ITS FALSE NEIGHBOUR: 'it returns false'. Refute it at one input. -/
def gfmatrixInverseWrong : ChangeSpec := { name := "gfmatrixInverse", fn := fun _ => fun
  | [d] => { results := [.lit (.bool false)], args := [d] }
  | _ => none }
def GfmatrixInverseWrongFalsely : Prop := gfmatrixInverseRow.holds Try.pinned (OpenSpec.ofChange gfmatrixInverseWrong)

/-- 'tegulalaw02.GfmatrixLeftInverse': WHATEVER THE INPUT: true; the input reads as it did. -/
def gfmatrixLeftInverseSpec : ChangeSpec := { name := "gfmatrixLeftInverse", fn := fun _ => fun
  | [d] => { results := [.lit (.bool true)], args := [d] }
  | _ => none }
def gfmatrixLeftInverseRow : OpenClaim := { program := "ytlkemgefioiffaa", sum := "c6495b11f3b95f5048d9190ad14e9ee57466cf4e951b35a81bb6ecd1da496bb3", func := "tegula/tegulalaw02.GfmatrixLeftInverse", spec := "gfmatrixLeftInverse", unfollowed := true, recurses := true, apart := false }
def GfmatrixLeftInverseSaid : Prop := gfmatrixLeftInverseRow.holds Try.pinned (OpenSpec.ofChange gfmatrixLeftInverseSpec)

/-- ITS FALSE NEIGHBOUR: 'it returns false'. Refute it at one input. -/
def gfmatrixLeftInverseWrong : ChangeSpec := { name := "gfmatrixLeftInverse", fn := fun _ => fun
  | [d] => { results := [.lit (.bool false)], args := [d] }
  | _ => none }
def GfmatrixLeftInverseWrongFalsely : Prop := gfmatrixLeftInverseRow.holds Try.pinned (OpenSpec.ofChange gfmatrixLeftInverseWrong)

/-- 'tegulalaw02.GfmatrixValid': WHATEVER THE INPUT: true; the input reads as it did. -/
def gfmatrixValidSpec : ChangeSpec := { name := "gfmatrixValid", fn := fun _ => fun
  | [d1, d2] => { results := [.lit (.bool true)], args := [d1, d2] }
  | _ => none }
def gfmatrixValidRow : OpenClaim := { program := "ytlkemgefioiffaa", sum := "c6495b11f3b95f5048d9190ad14e9ee57466cf4e951b35a81bb6ecd1da496bb3", func := "tegula/tegulalaw02.GfmatrixValid", spec := "gfmatrixValid", unfollowed := true, recurses := true, apart := false }
def GfmatrixValidSaid : Prop := gfmatrixValidRow.holds Try.pinned (OpenSpec.ofChange gfmatrixValidSpec)

/-- ITS FALSE NEIGHBOUR: 'it returns false'. Refute it at one input. -/
def gfmatrixValidWrong : ChangeSpec := { name := "gfmatrixValid", fn := fun _ => fun
  | [d1, d2] => { results := [.lit (.bool false)], args := [d1, d2] }
  | _ => none }
def GfmatrixValidWrongFalsely : Prop := gfmatrixValidRow.holds Try.pinned (OpenSpec.ofChange gfmatrixValidWrong)

/-- 'tegulalaw02.GfmatrixRank': WHATEVER THE INPUT: true; the input reads as it did. -/
def gfmatrixRankSpec : ChangeSpec := { name := "gfmatrixRank", fn := fun _ => fun
  | [d] => { results := [.lit (.bool true)], args := [d] }
  | _ => none }
def gfmatrixRankRow : OpenClaim := { program := "ytlkemgefioiffaa", sum := "c6495b11f3b95f5048d9190ad14e9ee57466cf4e951b35a81bb6ecd1da496bb3", func := "tegula/tegulalaw02.GfmatrixRank", spec := "gfmatrixRank", unfollowed := true, recurses := true, apart := false }
def GfmatrixRankSaid : Prop := gfmatrixRankRow.holds Try.pinned (OpenSpec.ofChange gfmatrixRankSpec)

/-- ITS FALSE NEIGHBOUR: 'it returns false'. Refute it at one input. -/
def gfmatrixRankWrong : ChangeSpec := { name := "gfmatrixRank", fn := fun _ => fun
  | [d] => { results := [.lit (.bool false)], args := [d] }
  | _ => none }
def GfmatrixRankWrongFalsely : Prop := gfmatrixRankRow.holds Try.pinned (OpenSpec.ofChange gfmatrixRankWrong)

/-- 'tegulalaw02.GfmatrixSolves': WHATEVER THE INPUT: true; the input reads as it did. -/
def gfmatrixSolvesSpec : ChangeSpec := { name := "gfmatrixSolves", fn := fun _ => fun
  | [d1, d2] => { results := [.lit (.bool true)], args := [d1, d2] }
  | _ => none }
def gfmatrixSolvesRow : OpenClaim := { program := "ytlkemgefioiffaa", sum := "c6495b11f3b95f5048d9190ad14e9ee57466cf4e951b35a81bb6ecd1da496bb3", func := "tegula/tegulalaw02.GfmatrixSolves", spec := "gfmatrixSolves", unfollowed := true, recurses := true, apart := false }
def GfmatrixSolvesSaid : Prop := gfmatrixSolvesRow.holds Try.pinned (OpenSpec.ofChange gfmatrixSolvesSpec)

/-- ITS FALSE NEIGHBOUR: 'it returns false'. Refute it at one input. -/
def gfmatrixSolvesWrong : ChangeSpec := { name := "gfmatrixSolves", fn := fun _ => fun
  | [d1, d2] => { results := [.lit (.bool false)], args := [d1, d2] }
  | _ => none }
def GfmatrixSolvesWrongFalsely : Prop := gfmatrixSolvesRow.holds Try.pinned (OpenSpec.ofChange gfmatrixSolvesWrong)

/-- 'tegulalaw02.GfmatrixProducts': WHATEVER THE INPUT: true; the input reads as it did. -/
def gfmatrixProductsSpec : ChangeSpec := { name := "gfmatrixProducts", fn := fun _ => fun
  | [d1, d2, d3] => { results := [.lit (.bool true)], args := [d1, d2, d3] }
  | _ => none }
def gfmatrixProductsRow : OpenClaim := { program := "ytlkemgefioiffaa", sum := "c6495b11f3b95f5048d9190ad14e9ee57466cf4e951b35a81bb6ecd1da496bb3", func := "tegula/tegulalaw02.GfmatrixProducts", spec := "gfmatrixProducts", unfollowed := true, recurses := true, apart := false }
def GfmatrixProductsSaid : Prop := gfmatrixProductsRow.holds Try.pinned (OpenSpec.ofChange gfmatrixProductsSpec)

/-- ITS FALSE NEIGHBOUR: 'it returns false'. Refute it at one input. -/
def gfmatrixProductsWrong : ChangeSpec := { name := "gfmatrixProducts", fn := fun _ => fun
  | [d1, d2, d3] => { results := [.lit (.bool false)], args := [d1, d2, d3] }
  | _ => none }
def GfmatrixProductsWrongFalsely : Prop := gfmatrixProductsRow.holds Try.pinned (OpenSpec.ofChange gfmatrixProductsWrong)

/-- 'tegulalaw02.GfmatrixSelect': WHATEVER THE INPUT: true; the input reads as it did. -/
def gfmatrixSelectSpec : ChangeSpec := { name := "gfmatrixSelect", fn := fun _ => fun
  | [d1, d2, d3] => { results := [.lit (.bool true)], args := [d1, d2, d3] }
  | _ => none }
def gfmatrixSelectRow : OpenClaim := { program := "ytlkemgefioiffaa", sum := "c6495b11f3b95f5048d9190ad14e9ee57466cf4e951b35a81bb6ecd1da496bb3", func := "tegula/tegulalaw02.GfmatrixSelect", spec := "gfmatrixSelect", unfollowed := true, recurses := true, apart := false }
def GfmatrixSelectSaid : Prop := gfmatrixSelectRow.holds Try.pinned (OpenSpec.ofChange gfmatrixSelectSpec)

/-- ITS FALSE NEIGHBOUR: 'it returns false'. Refute it at one input. -/
def gfmatrixSelectWrong : ChangeSpec := { name := "gfmatrixSelect", fn := fun _ => fun
  | [d1, d2, d3] => { results := [.lit (.bool false)], args := [d1, d2, d3] }
  | _ => none }
def GfmatrixSelectWrongFalsely : Prop := gfmatrixSelectRow.holds Try.pinned (OpenSpec.ofChange gfmatrixSelectWrong)

/-- 'tegulalaw02.GfmatrixAlgebra': WHATEVER THE INPUT: true; the input reads as it did. -/
def gfmatrixAlgebraSpec : ChangeSpec := { name := "gfmatrixAlgebra", fn := fun _ => fun
  | [d1, d2] => { results := [.lit (.bool true)], args := [d1, d2] }
  | _ => none }
def gfmatrixAlgebraRow : OpenClaim := { program := "ytlkemgefioiffaa", sum := "c6495b11f3b95f5048d9190ad14e9ee57466cf4e951b35a81bb6ecd1da496bb3", func := "tegula/tegulalaw02.GfmatrixAlgebra", spec := "gfmatrixAlgebra", unfollowed := true, recurses := true, apart := false }
def GfmatrixAlgebraSaid : Prop := gfmatrixAlgebraRow.holds Try.pinned (OpenSpec.ofChange gfmatrixAlgebraSpec)

/-- ITS FALSE NEIGHBOUR: 'it returns false'. Refute it at one input. -/
def gfmatrixAlgebraWrong : ChangeSpec := { name := "gfmatrixAlgebra", fn := fun _ => fun
  | [d1, d2] => { results := [.lit (.bool false)], args := [d1, d2] }
  | _ => none }
def GfmatrixAlgebraWrongFalsely : Prop := gfmatrixAlgebraRow.holds Try.pinned (OpenSpec.ofChange gfmatrixAlgebraWrong)

/- THE SECOND FORM. 'bulk': how many values and letters a reading holds, each counted each time it is reached (what is shared counts as often as it is met; a slice's spare places count too). A statement '..UptoSaid' is the law's where the arguments, and the package variables that the reading takes, are together of bulk at most 1048576: NARROWER than '..Said'. Prove '..Said' where nothing that the law and all that it calls make is longer than what came in: it says more and counts as full. Else prove '..UptoSaid'. A law counts once. -/
mutual
def uptoBulk {H : Type} : DataW H → Nat
  | .lit (.string bytes) => bytes.length + 1
  | .lit _ => 1
  | .nil => 1
  | .ptr d => uptoBulk d + 1
  | .slice elems spare => uptoBulkAll elems + uptoBulkAll spare + 1
  | .agg parts => uptoBulkAll parts + 1
  | .iface _ d => uptoBulk d + 1
  | .map entries => uptoBulkEntries entries + 1
  | .held _ => 1
def uptoBulkAll {H : Type} : List (DataW H) → Nat
  | [] => 0
  | d :: r => uptoBulk d + uptoBulkAll r
def uptoBulkEntries {H : Type} : List (Lit × DataW H) → Nat
  | [] => 0
  | x :: r => uptoBulkEntry x + uptoBulkEntries r
def uptoBulkEntry {H : Type} : Lit × DataW H → Nat
  | (.string bytes, d) => bytes.length + uptoBulk d + 1
  | (_, d) => uptoBulk d + 1
 end
def uptoSmall : (H : Type) → List (DataW H) → Bool := fun _ ds => decide (uptoBulkAll ds ≤ 1048576)
def OpenSpec.upto (s : _root_.Go.ChangeSpec) : _root_.Go.OpenSpec := { _root_.Go.OpenSpec.ofChange s with cond := some uptoSmall }

/-- 'tegulalaw02.GfmatrixInverse', WHERE WHAT IT READS IS OF BULK AT MOST 1048576: true; the input reads as it did. -/
def gfmatrixInverseUptoRow : OpenClaim := { program := "ytlkemgefioiffaa", sum := "c6495b11f3b95f5048d9190ad14e9ee57466cf4e951b35a81bb6ecd1da496bb3", func := "tegula/tegulalaw02.GfmatrixInverse", spec := "gfmatrixInverse", unfollowed := true, recurses := true, apart := false, narrowed := true }
def GfmatrixInverseUptoSaid : Prop := gfmatrixInverseUptoRow.holds Try.pinned (OpenSpec.upto gfmatrixInverseSpec)

/-- 'tegulalaw02.GfmatrixLeftInverse', WHERE WHAT IT READS IS OF BULK AT MOST 1048576: true; the input reads as it did. -/
def gfmatrixLeftInverseUptoRow : OpenClaim := { program := "ytlkemgefioiffaa", sum := "c6495b11f3b95f5048d9190ad14e9ee57466cf4e951b35a81bb6ecd1da496bb3", func := "tegula/tegulalaw02.GfmatrixLeftInverse", spec := "gfmatrixLeftInverse", unfollowed := true, recurses := true, apart := false, narrowed := true }
def GfmatrixLeftInverseUptoSaid : Prop := gfmatrixLeftInverseUptoRow.holds Try.pinned (OpenSpec.upto gfmatrixLeftInverseSpec)

/-- 'tegulalaw02.GfmatrixValid', WHERE WHAT IT READS IS OF BULK AT MOST 1048576: true; the input reads as it did. -/
def gfmatrixValidUptoRow : OpenClaim := { program := "ytlkemgefioiffaa", sum := "c6495b11f3b95f5048d9190ad14e9ee57466cf4e951b35a81bb6ecd1da496bb3", func := "tegula/tegulalaw02.GfmatrixValid", spec := "gfmatrixValid", unfollowed := true, recurses := true, apart := false, narrowed := true }
def GfmatrixValidUptoSaid : Prop := gfmatrixValidUptoRow.holds Try.pinned (OpenSpec.upto gfmatrixValidSpec)

/-- 'tegulalaw02.GfmatrixRank', WHERE WHAT IT READS IS OF BULK AT MOST 1048576: true; the input reads as it did. -/
def gfmatrixRankUptoRow : OpenClaim := { program := "ytlkemgefioiffaa", sum := "c6495b11f3b95f5048d9190ad14e9ee57466cf4e951b35a81bb6ecd1da496bb3", func := "tegula/tegulalaw02.GfmatrixRank", spec := "gfmatrixRank", unfollowed := true, recurses := true, apart := false, narrowed := true }
def GfmatrixRankUptoSaid : Prop := gfmatrixRankUptoRow.holds Try.pinned (OpenSpec.upto gfmatrixRankSpec)

/-- 'tegulalaw02.GfmatrixSolves', WHERE WHAT IT READS IS OF BULK AT MOST 1048576: true; the input reads as it did. -/
def gfmatrixSolvesUptoRow : OpenClaim := { program := "ytlkemgefioiffaa", sum := "c6495b11f3b95f5048d9190ad14e9ee57466cf4e951b35a81bb6ecd1da496bb3", func := "tegula/tegulalaw02.GfmatrixSolves", spec := "gfmatrixSolves", unfollowed := true, recurses := true, apart := false, narrowed := true }
def GfmatrixSolvesUptoSaid : Prop := gfmatrixSolvesUptoRow.holds Try.pinned (OpenSpec.upto gfmatrixSolvesSpec)

/-- 'tegulalaw02.GfmatrixProducts', WHERE WHAT IT READS IS OF BULK AT MOST 1048576: true; the input reads as it did. -/
def gfmatrixProductsUptoRow : OpenClaim := { program := "ytlkemgefioiffaa", sum := "c6495b11f3b95f5048d9190ad14e9ee57466cf4e951b35a81bb6ecd1da496bb3", func := "tegula/tegulalaw02.GfmatrixProducts", spec := "gfmatrixProducts", unfollowed := true, recurses := true, apart := false, narrowed := true }
def GfmatrixProductsUptoSaid : Prop := gfmatrixProductsUptoRow.holds Try.pinned (OpenSpec.upto gfmatrixProductsSpec)

/-- 'tegulalaw02.GfmatrixSelect', WHERE WHAT IT READS IS OF BULK AT MOST 1048576: true; the input reads as it did. -/
def gfmatrixSelectUptoRow : OpenClaim := { program := "ytlkemgefioiffaa", sum := "c6495b11f3b95f5048d9190ad14e9ee57466cf4e951b35a81bb6ecd1da496bb3", func := "tegula/tegulalaw02.GfmatrixSelect", spec := "gfmatrixSelect", unfollowed := true, recurses := true, apart := false, narrowed := true }
def GfmatrixSelectUptoSaid : Prop := gfmatrixSelectUptoRow.holds Try.pinned (OpenSpec.upto gfmatrixSelectSpec)

/-- 'tegulalaw02.GfmatrixAlgebra', WHERE WHAT IT READS IS OF BULK AT MOST 1048576: true; the input reads as it did. -/
def gfmatrixAlgebraUptoRow : OpenClaim := { program := "ytlkemgefioiffaa", sum := "c6495b11f3b95f5048d9190ad14e9ee57466cf4e951b35a81bb6ecd1da496bb3", func := "tegula/tegulalaw02.GfmatrixAlgebra", spec := "gfmatrixAlgebra", unfollowed := true, recurses := true, apart := false, narrowed := true }
def GfmatrixAlgebraUptoSaid : Prop := gfmatrixAlgebraUptoRow.holds Try.pinned (OpenSpec.upto gfmatrixAlgebraSpec)

end Rows
end Go.Proofs.Ytlkemgefioiffaa
