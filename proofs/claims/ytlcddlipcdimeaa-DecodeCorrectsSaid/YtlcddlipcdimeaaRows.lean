/-
  No cell of these rows narrows 'for every input' (looked for: loops, veiled, ifaces, maps, wideKeys, modest, calm, conditions, laid).
  DERIVED. THE GIVEN ROWS OF THIS SEAT. 8 by the template 'for every input the law returns true; each argument reads behind the call as it read before'; 0 by the template 'total and deterministic' (their statements: YtlcddlipcdimeaaTotals.lean).
  GIVEN WITH THE SEED: the statements are not yours to turn. If you find one false, say at which input.
  Laid BY PROGRAM, IN A SANDBOX (cutbox-rows.mjs): the forced cells as the released guide's own fill.sh prints them over the translation cf77f7cf5f68caa4… (all of the seat's roots in one cut). By AI agents, Wed Nov 11 2026. No macro, syntax, notation, axiom, sorry.
-/
import Derived.Test.YtlcddlipcdimeaaChecked
import GoSem.Claim
import GoSem.ClaimJoined
import GoSem.ClaimMapViews
import Derived.JoinedTies
import Derived.KernelRfl
namespace Go.Proofs.Ytlcddlipcdimeaa
/- THE CELL 'sum', in the pinned program and in every row, IS THE sha256 OF THE DUMP (.gsa) THAT YtlcddlipcdimeaaProg.lean LOADS. Nothing in Lean hashes anything: it is a label: what it is worth is what the hold of that sum in a sandbox is worth. -/
noncomputable def Try.pinned : Pinned := { name := "ytlcddlipcdimeaa", sum := "cf77f7cf5f68caa4a1cacea916599746bc7bc8b204b0464a97a4edccc9154aa0", checked := Try.checked }
namespace Rows
def none {H : Type} : Left H := { results := [], args := [] }

/-- 'tegulalaw04.DecodeWeights': WHATEVER THE INPUT: true; the input reads as it did. -/
def decodeWeightsSpec : ChangeSpec := { name := "decodeWeights", fn := fun _ => fun
  | [d1, d2, d3] => { results := [.lit (.bool true)], args := [d1, d2, d3] }
  | _ => none }
def decodeWeightsRow : OpenClaim := { program := "ytlcddlipcdimeaa", sum := "cf77f7cf5f68caa4a1cacea916599746bc7bc8b204b0464a97a4edccc9154aa0", func := "tegula/tegulalaw04.DecodeWeights", spec := "decodeWeights", unfollowed := true, recurses := true, apart := false }
def DecodeWeightsSaid : Prop := decodeWeightsRow.holds Try.pinned (OpenSpec.ofChange decodeWeightsSpec)

/-- ITS FALSE NEIGHBOUR: 'it returns false'. Refute it at one input. -/
def decodeWeightsWrong : ChangeSpec := { name := "decodeWeights", fn := fun _ => fun
  | [d1, d2, d3] => { results := [.lit (.bool false)], args := [d1, d2, d3] }
  | _ => none }
def DecodeWeightsWrongFalsely : Prop := decodeWeightsRow.holds Try.pinned (OpenSpec.ofChange decodeWeightsWrong)

/-- 'tegulalaw04.DecodeCombines': WHATEVER THE INPUT: true; the input reads as it did. -/
def decodeCombinesSpec : ChangeSpec := { name := "decodeCombines", fn := fun _ => fun
  | [d1, d2] => { results := [.lit (.bool true)], args := [d1, d2] }
  | _ => none }
def decodeCombinesRow : OpenClaim := { program := "ytlcddlipcdimeaa", sum := "cf77f7cf5f68caa4a1cacea916599746bc7bc8b204b0464a97a4edccc9154aa0", func := "tegula/tegulalaw04.DecodeCombines", spec := "decodeCombines", unfollowed := true, recurses := true, apart := false }
def DecodeCombinesSaid : Prop := decodeCombinesRow.holds Try.pinned (OpenSpec.ofChange decodeCombinesSpec)

/-- ITS FALSE NEIGHBOUR: 'it returns false'. Refute it at one input. -/
def decodeCombinesWrong : ChangeSpec := { name := "decodeCombines", fn := fun _ => fun
  | [d1, d2] => { results := [.lit (.bool false)], args := [d1, d2] }
  | _ => none }
def DecodeCombinesWrongFalsely : Prop := decodeCombinesRow.holds Try.pinned (OpenSpec.ofChange decodeCombinesWrong)

/-- 'tegulalaw04.DecodeAnyHelpers': WHATEVER THE INPUT: true; the input reads as it did. -/
def decodeAnyHelpersSpec : ChangeSpec := { name := "decodeAnyHelpers", fn := fun _ => fun
  | [d1, d2, d3] => { results := [.lit (.bool true)], args := [d1, d2, d3] }
  | _ => none }
def decodeAnyHelpersRow : OpenClaim := { program := "ytlcddlipcdimeaa", sum := "cf77f7cf5f68caa4a1cacea916599746bc7bc8b204b0464a97a4edccc9154aa0", func := "tegula/tegulalaw04.DecodeAnyHelpers", spec := "decodeAnyHelpers", unfollowed := true, recurses := true, apart := false }
def DecodeAnyHelpersSaid : Prop := decodeAnyHelpersRow.holds Try.pinned (OpenSpec.ofChange decodeAnyHelpersSpec)

/-- ITS FALSE NEIGHBOUR: 'it returns false'. Refute it at one input. -/
def decodeAnyHelpersWrong : ChangeSpec := { name := "decodeAnyHelpers", fn := fun _ => fun
  | [d1, d2, d3] => { results := [.lit (.bool false)], args := [d1, d2, d3] }
  | _ => none }
def DecodeAnyHelpersWrongFalsely : Prop := decodeAnyHelpersRow.holds Try.pinned (OpenSpec.ofChange decodeAnyHelpersWrong)

/-- 'tegulalaw04.DecodeMatchesReference': WHATEVER THE INPUT: true; the input reads as it did. -/
def decodeMatchesReferenceSpec : ChangeSpec := { name := "decodeMatchesReference", fn := fun _ => fun
  | [d1, d2] => { results := [.lit (.bool true)], args := [d1, d2] }
  | _ => none }
def decodeMatchesReferenceRow : OpenClaim := { program := "ytlcddlipcdimeaa", sum := "cf77f7cf5f68caa4a1cacea916599746bc7bc8b204b0464a97a4edccc9154aa0", func := "tegula/tegulalaw04.DecodeMatchesReference", spec := "decodeMatchesReference", unfollowed := true, recurses := true, apart := false }
def DecodeMatchesReferenceSaid : Prop := decodeMatchesReferenceRow.holds Try.pinned (OpenSpec.ofChange decodeMatchesReferenceSpec)

/-- ITS FALSE NEIGHBOUR: 'it returns false'. Refute it at one input. -/
def decodeMatchesReferenceWrong : ChangeSpec := { name := "decodeMatchesReference", fn := fun _ => fun
  | [d1, d2] => { results := [.lit (.bool false)], args := [d1, d2] }
  | _ => none }
def DecodeMatchesReferenceWrongFalsely : Prop := decodeMatchesReferenceRow.holds Try.pinned (OpenSpec.ofChange decodeMatchesReferenceWrong)

/-- 'tegulalaw04.DecodeRestores': WHATEVER THE INPUT: true; the input reads as it did. -/
def decodeRestoresSpec : ChangeSpec := { name := "decodeRestores", fn := fun _ => fun
  | [d1, d2, d3] => { results := [.lit (.bool true)], args := [d1, d2, d3] }
  | _ => none }
def decodeRestoresRow : OpenClaim := { program := "ytlcddlipcdimeaa", sum := "cf77f7cf5f68caa4a1cacea916599746bc7bc8b204b0464a97a4edccc9154aa0", func := "tegula/tegulalaw04.DecodeRestores", spec := "decodeRestores", unfollowed := true, recurses := true, apart := false }
def DecodeRestoresSaid : Prop := decodeRestoresRow.holds Try.pinned (OpenSpec.ofChange decodeRestoresSpec)

/-- ITS FALSE NEIGHBOUR: 'it returns false'. Refute it at one input. -/
def decodeRestoresWrong : ChangeSpec := { name := "decodeRestores", fn := fun _ => fun
  | [d1, d2, d3] => { results := [.lit (.bool false)], args := [d1, d2, d3] }
  | _ => none }
def DecodeRestoresWrongFalsely : Prop := decodeRestoresRow.holds Try.pinned (OpenSpec.ofChange decodeRestoresWrong)

/-- 'tegulalaw04.DecodeSyndromes': WHATEVER THE INPUT: true; the input reads as it did. -/
def decodeSyndromesSpec : ChangeSpec := { name := "decodeSyndromes", fn := fun _ => fun
  | [d1, d2] => { results := [.lit (.bool true)], args := [d1, d2] }
  | _ => none }
def decodeSyndromesRow : OpenClaim := { program := "ytlcddlipcdimeaa", sum := "cf77f7cf5f68caa4a1cacea916599746bc7bc8b204b0464a97a4edccc9154aa0", func := "tegula/tegulalaw04.DecodeSyndromes", spec := "decodeSyndromes", unfollowed := true, recurses := true, apart := false }
def DecodeSyndromesSaid : Prop := decodeSyndromesRow.holds Try.pinned (OpenSpec.ofChange decodeSyndromesSpec)

/-- ITS FALSE NEIGHBOUR: 'it returns false'. Refute it at one input. -/
def decodeSyndromesWrong : ChangeSpec := { name := "decodeSyndromes", fn := fun _ => fun
  | [d1, d2] => { results := [.lit (.bool false)], args := [d1, d2] }
  | _ => none }
def DecodeSyndromesWrongFalsely : Prop := decodeSyndromesRow.holds Try.pinned (OpenSpec.ofChange decodeSyndromesWrong)

/-- 'tegulalaw04.DecodeLocates': WHATEVER THE INPUT: true; the input reads as it did. -/
def decodeLocatesSpec : ChangeSpec := { name := "decodeLocates", fn := fun _ => fun
  | [d1, d2, d3] => { results := [.lit (.bool true)], args := [d1, d2, d3] }
  | _ => none }
def decodeLocatesRow : OpenClaim := { program := "ytlcddlipcdimeaa", sum := "cf77f7cf5f68caa4a1cacea916599746bc7bc8b204b0464a97a4edccc9154aa0", func := "tegula/tegulalaw04.DecodeLocates", spec := "decodeLocates", unfollowed := true, recurses := true, apart := false }
def DecodeLocatesSaid : Prop := decodeLocatesRow.holds Try.pinned (OpenSpec.ofChange decodeLocatesSpec)

/-- ITS FALSE NEIGHBOUR: 'it returns false'. Refute it at one input. -/
def decodeLocatesWrong : ChangeSpec := { name := "decodeLocates", fn := fun _ => fun
  | [d1, d2, d3] => { results := [.lit (.bool false)], args := [d1, d2, d3] }
  | _ => none }
def DecodeLocatesWrongFalsely : Prop := decodeLocatesRow.holds Try.pinned (OpenSpec.ofChange decodeLocatesWrong)

/-- 'tegulalaw04.DecodeCorrects': WHATEVER THE INPUT: true; the input reads as it did. -/
def decodeCorrectsSpec : ChangeSpec := { name := "decodeCorrects", fn := fun _ => fun
  | [d] => { results := [.lit (.bool true)], args := [d] }
  | _ => none }
def decodeCorrectsRow : OpenClaim := { program := "ytlcddlipcdimeaa", sum := "cf77f7cf5f68caa4a1cacea916599746bc7bc8b204b0464a97a4edccc9154aa0", func := "tegula/tegulalaw04.DecodeCorrects", spec := "decodeCorrects", unfollowed := true, recurses := true, apart := false }
def DecodeCorrectsSaid : Prop := decodeCorrectsRow.holds Try.pinned (OpenSpec.ofChange decodeCorrectsSpec)

/-- ITS FALSE NEIGHBOUR: 'it returns false'. Refute it at one input. -/
def decodeCorrectsWrong : ChangeSpec := { name := "decodeCorrects", fn := fun _ => fun
  | [d] => { results := [.lit (.bool false)], args := [d] }
  | _ => none }
def DecodeCorrectsWrongFalsely : Prop := decodeCorrectsRow.holds Try.pinned (OpenSpec.ofChange decodeCorrectsWrong)

/- THE SECOND FORM. 'bulk': how many values and letters a reading holds, each counted each time it is reached (what is shared counts as often as it is met; a slice's spare places count too). A statement '..UptoSaid' is the law's where the arguments, and the package variables that the reading takes, are together of bulk at most 1048576: NARROWER than '..Said'. Prove '..Said' where nothing that the law and all that it calls make is longer than what came in: it says more and counts as full. Else prove '..UptoSaid'. A law counts once. -/
mutual
def uptoBulk {H : Type} : DataW H → Nat
  | .lit (.string bytes) => bytes.length + 1
  | .lit _ => 1
  | .nil => 1
  | .ptr d => uptoBulk d + 1
  | .slice elems spare => uptoBulkAll elems + uptoBulkAll spare + 1
  | .agg parts => uptoBulkAll parts + 1
  | .iface _ d => uptoBulk d + 1
  | .map entries => uptoBulkEntries entries + 1
  | .held _ => 1
def uptoBulkAll {H : Type} : List (DataW H) → Nat
  | [] => 0
  | d :: r => uptoBulk d + uptoBulkAll r
def uptoBulkEntries {H : Type} : List (Lit × DataW H) → Nat
  | [] => 0
  | x :: r => uptoBulkEntry x + uptoBulkEntries r
def uptoBulkEntry {H : Type} : Lit × DataW H → Nat
  | (.string bytes, d) => bytes.length + uptoBulk d + 1
  | (_, d) => uptoBulk d + 1
 end
def uptoSmall : (H : Type) → List (DataW H) → Bool := fun _ ds => decide (uptoBulkAll ds ≤ 1048576)
def OpenSpec.upto (s : _root_.Go.ChangeSpec) : _root_.Go.OpenSpec := { _root_.Go.OpenSpec.ofChange s with cond := some uptoSmall }

/-- 'tegulalaw04.DecodeWeights', WHERE WHAT IT READS IS OF BULK AT MOST 1048576: true; the input reads as it did. -/
def decodeWeightsUptoRow : OpenClaim := { program := "ytlcddlipcdimeaa", sum := "cf77f7cf5f68caa4a1cacea916599746bc7bc8b204b0464a97a4edccc9154aa0", func := "tegula/tegulalaw04.DecodeWeights", spec := "decodeWeights", unfollowed := true, recurses := true, apart := false, narrowed := true }
def DecodeWeightsUptoSaid : Prop := decodeWeightsUptoRow.holds Try.pinned (OpenSpec.upto decodeWeightsSpec)

/-- 'tegulalaw04.DecodeCombines', WHERE WHAT IT READS IS OF BULK AT MOST 1048576: true; the input reads as it did. -/
def decodeCombinesUptoRow : OpenClaim := { program := "ytlcddlipcdimeaa", sum := "cf77f7cf5f68caa4a1cacea916599746bc7bc8b204b0464a97a4edccc9154aa0", func := "tegula/tegulalaw04.DecodeCombines", spec := "decodeCombines", unfollowed := true, recurses := true, apart := false, narrowed := true }
def DecodeCombinesUptoSaid : Prop := decodeCombinesUptoRow.holds Try.pinned (OpenSpec.upto decodeCombinesSpec)

/-- 'tegulalaw04.DecodeAnyHelpers', WHERE WHAT IT READS IS OF BULK AT MOST 1048576: true; the input reads as it did. -/
def decodeAnyHelpersUptoRow : OpenClaim := { program := "ytlcddlipcdimeaa", sum := "cf77f7cf5f68caa4a1cacea916599746bc7bc8b204b0464a97a4edccc9154aa0", func := "tegula/tegulalaw04.DecodeAnyHelpers", spec := "decodeAnyHelpers", unfollowed := true, recurses := true, apart := false, narrowed := true }
def DecodeAnyHelpersUptoSaid : Prop := decodeAnyHelpersUptoRow.holds Try.pinned (OpenSpec.upto decodeAnyHelpersSpec)

/-- 'tegulalaw04.DecodeMatchesReference', WHERE WHAT IT READS IS OF BULK AT MOST 1048576: true; the input reads as it did. -/
def decodeMatchesReferenceUptoRow : OpenClaim := { program := "ytlcddlipcdimeaa", sum := "cf77f7cf5f68caa4a1cacea916599746bc7bc8b204b0464a97a4edccc9154aa0", func := "tegula/tegulalaw04.DecodeMatchesReference", spec := "decodeMatchesReference", unfollowed := true, recurses := true, apart := false, narrowed := true }
def DecodeMatchesReferenceUptoSaid : Prop := decodeMatchesReferenceUptoRow.holds Try.pinned (OpenSpec.upto decodeMatchesReferenceSpec)

/-- 'tegulalaw04.DecodeRestores', WHERE WHAT IT READS IS OF BULK AT MOST 1048576: true; the input reads as it did. -/
def decodeRestoresUptoRow : OpenClaim := { program := "ytlcddlipcdimeaa", sum := "cf77f7cf5f68caa4a1cacea916599746bc7bc8b204b0464a97a4edccc9154aa0", func := "tegula/tegulalaw04.DecodeRestores", spec := "decodeRestores", unfollowed := true, recurses := true, apart := false, narrowed := true }
def DecodeRestoresUptoSaid : Prop := decodeRestoresUptoRow.holds Try.pinned (OpenSpec.upto decodeRestoresSpec)

/-- 'tegulalaw04.DecodeSyndromes', WHERE WHAT IT READS IS OF BULK AT MOST 1048576: true; the input reads as it did. -/
def decodeSyndromesUptoRow : OpenClaim := { program := "ytlcddlipcdimeaa", sum := "cf77f7cf5f68caa4a1cacea916599746bc7bc8b204b0464a97a4edccc9154aa0", func := "tegula/tegulalaw04.DecodeSyndromes", spec := "decodeSyndromes", unfollowed := true, recurses := true, apart := false, narrowed := true }
def DecodeSyndromesUptoSaid : Prop := decodeSyndromesUptoRow.holds Try.pinned (OpenSpec.upto decodeSyndromesSpec)

/-- 'tegulalaw04.DecodeLocates', WHERE WHAT IT READS IS OF BULK AT MOST 1048576: true; the input reads as it did. -/
def decodeLocatesUptoRow : OpenClaim := { program := "ytlcddlipcdimeaa", sum := "cf77f7cf5f68caa4a1cacea916599746bc7bc8b204b0464a97a4edccc9154aa0", func := "tegula/tegulalaw04.DecodeLocates", spec := "decodeLocates", unfollowed := true, recurses := true, apart := false, narrowed := true }
def DecodeLocatesUptoSaid : Prop := decodeLocatesUptoRow.holds Try.pinned (OpenSpec.upto decodeLocatesSpec)

/-- 'tegulalaw04.DecodeCorrects', WHERE WHAT IT READS IS OF BULK AT MOST 1048576: true; the input reads as it did. -/
def decodeCorrectsUptoRow : OpenClaim := { program := "ytlcddlipcdimeaa", sum := "cf77f7cf5f68caa4a1cacea916599746bc7bc8b204b0464a97a4edccc9154aa0", func := "tegula/tegulalaw04.DecodeCorrects", spec := "decodeCorrects", unfollowed := true, recurses := true, apart := false, narrowed := true }
def DecodeCorrectsUptoSaid : Prop := decodeCorrectsUptoRow.holds Try.pinned (OpenSpec.upto decodeCorrectsSpec)

end Rows
end Go.Proofs.Ytlcddlipcdimeaa
