/- WholeBalance answers true, whatever the numbers: every disk carries the same count of pieces, every two disks share the same count of groups, and no block is used twice. No condition. -/
import Derived.Test.YtdcijljfgcjelaaJd7
namespace Go.Proofs.Ytdcijljfgcjelaa.LWholeBalance
set_option maxRecDepth 20000
open Go.RowKit Go.WideShapes Go.ChangeShapes Go.ChangeAt
attribute [local irreducible] Calls

theorem walk (w : World) (x : Int) (x1 : 0 ≤ x) (x2 : x ≤ 255) (y : Int) (y1 : 0 ≤ y) (y2 : y ≤ 255) (z : Int) (z1 : 0 ≤ z) (z2 : z ≤ 255) :
    Calls Try.prog 4 #[.int .u8 x, .int .u8 y, .int .u8 z] w fun en w' => en = .returned (.bool true) ∧ Below w.heap.size w w' := by
  obtain ⟨d, rfl⟩ : ∃ d : Nat, x = d := ⟨x.toNat, by omega⟩
  obtain ⟨wd, rfl⟩ : ∃ d : Nat, y = d := ⟨y.toNat, by omega⟩
  obtain ⟨t, rfl⟩ : ∃ d : Nat, z = d := ⟨z.toNat, by omega⟩
  exact bal_all d wd t w (by omega) (by omega) (by omega)

theorem lifted (os : Os) (started : os.Started) (H : Type) (enc : TypeId × Value → H) :
    ReturnsInHanded {} Try.checked os 4 .any (Rows.wholeBalanceSpec.pre6 enc Try.prog Try.f4 Rows.wholeBalanceRow.domain false) (Rows.wholeBalanceSpec.post enc Try.prog Try.f4 false true false false) := by
  refine returnsInHanded_of_change (C := Try.checked) own started (by kernel_rfl) Try.func4
    (ChangeSpec.witness6 (enc := enc) (C := Try.checked) false ⟨#[], #[.int .u8 0, .int .u8 0, .int .u8 0], []⟩ 8 (by kernel_rfl) (by kernel_rfl) (by kernel_rfl) (by kernel_rfl)) ?_
  intro W base args ds gs before hval0 hW _ _
  have hval : ∀ (j : Nat) t v, Try.f4.params[j]? = some t → args[j]? = some v → Value.okWide Try.prog W .any base t v := hval0
  have hW' := hW
  obtain ⟨p, q, hA0, hV, rfl, hfz, hnd⟩ := hW
  have hA : DataW.TrodAll enc Try.prog W 0 (fun _ => true) true Try.f4.params.toList args.toList ds p := hA0
  rw [Try.params4] at hA hval
  obtain ⟨v0, vs0, d0, ds0, p0, q0, hargs, rfl, rfl, h0, r0⟩ := trodAll_cons hA
  obtain ⟨v1, vs1, d1, ds1, p1, q1, rfl, rfl, rfl, h1, r1⟩ := trodAll_cons r0
  obtain ⟨v2, vs2, d2, ds2, p2, q2, rfl, rfl, rfl, h2, r2⟩ := trodAll_cons r1
  obtain ⟨rfl, rfl, rfl⟩ := trodAll_nil r2
  obtain rfl : args = #[v0, v1, v2] := by cases args; simp_all
  obtain ⟨x, rfl, xlo, xhi⟩ := open_u8i (hval 0 5 v0 rfl rfl) h0
  obtain ⟨y, rfl, ylo, yhi⟩ := open_u8i (hval 1 5 v1 rfl rfl) h1
  obtain ⟨z, rfl, zlo, zhi⟩ := open_u8i (hval 2 5 v2 rfl rfl) h2
  refine (walk (w := W) x xlo xhi y ylo yhi z zlo zhi).mono fun e W' ⟨he, hb⟩ => ?_
  subst he
  exact ⟨_, rfl, law_post laidOut (by kernel_rfl) rfl rfl Try.underlying4 (fun ds h => by match ds, h with | [_, _, _], _ => rfl) hW' hb⟩

theorem proved : Rows.WholeBalanceSaid :=
  OpenClaim.holds_of_wide 4 Try.f4 rfl rfl rfl rfl rfl rfl rfl ⟨rfl, rfl, rfl, rfl, rfl⟩ rfl rfl rfl rfl rfl (by kernel_rfl) Try.func4 (by kernel_rfl)
    (of_decide_eq_true (by kernel_rfl)) (by unfold Func.isWrapper; first | (rw [if_pos (by decide +kernel)]; kernel_rfl) | (rw [if_neg (by decide +kernel)]; exact ⟨rfl, rfl⟩))
    (fun os started H enc _ => lifted os started H enc)
end Go.Proofs.Ytdcijljfgcjelaa.LWholeBalance
