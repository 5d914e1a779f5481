/- WholeRebuildPlan answers true, whatever the numbers: the plan of a rebuild has one task for each lost piece, reads from no disk more than its share, and leaves every group on different disks in service. No condition. -/
import Derived.Test.YtdcijljfgcjelaaGreatJh7
namespace Go.Proofs.YtdcijljfgcjelaaGreat.LWholeRebuildPlan
set_option maxRecDepth 20000
open Go.RowKit Go.WideShapes Go.ChangeShapes Go.ChangeAt
attribute [local irreducible] Calls

theorem walk (w : World) (x : Int) (x1 : 0 ≤ x) (x2 : x ≤ 255) (y : Int) (y1 : 0 ≤ y) (y2 : y ≤ 255) (z : Int) (z1 : 0 ≤ z) (z2 : z ≤ 255) (u : Int) (u1 : 0 ≤ u) (u2 : u ≤ 255) :
    Calls Tryz.prog 4 #[.int .u8 x, .int .u8 y, .int .u8 z, .int .u8 u] w fun en w' => en = .returned (.bool true) ∧ Below w.heap.size w w' := by
  obtain ⟨d, rfl⟩ : ∃ d : Nat, x = d := ⟨x.toNat, by omega⟩
  obtain ⟨wd, rfl⟩ : ∃ d : Nat, y = d := ⟨y.toNat, by omega⟩
  obtain ⟨t, rfl⟩ : ∃ d : Nat, z = d := ⟨z.toNat, by omega⟩
  obtain ⟨D, rfl⟩ : ∃ d : Nat, u = d := ⟨u.toNat, by omega⟩
  exact rp_all d wd t D w (by omega) (by omega) (by omega) (by omega)

theorem lifted (os : Os) (started : os.Started) (H : Type) (enc : TypeId × Value → H) :
    ReturnsInHanded {} Tryz.checked os 4 .any (Rows.wholeRebuildPlanSpec.pre6 enc Tryz.prog Tryz.f4 Rows.wholeRebuildPlanRow.domain false) (Rows.wholeRebuildPlanSpec.post enc Tryz.prog Tryz.f4 false true false false) := by
  refine returnsInHanded_of_change (C := Tryz.checked) own started (by kernel_rfl) Tryz.func4
    (ChangeSpec.witness6 (enc := enc) (C := Tryz.checked) false ⟨#[], #[.int .u8 0, .int .u8 0, .int .u8 0, .int .u8 0], []⟩ 8 (by kernel_rfl) (by kernel_rfl) (by kernel_rfl) (by kernel_rfl)) ?_
  intro W base args ds gs before hval0 hW _ _
  have hval : ∀ (j : Nat) t v, Tryz.f4.params[j]? = some t → args[j]? = some v → Value.okWide Tryz.prog W .any base t v := hval0
  have hW' := hW
  obtain ⟨p, q, hA0, hV, rfl, hfz, hnd⟩ := hW
  have hA : DataW.TrodAll enc Tryz.prog W 0 (fun _ => true) true Tryz.f4.params.toList args.toList ds p := hA0
  rw [Tryz.params4] at hA hval
  obtain ⟨v0, vs0, d0, ds0, p0, q0, hargs, rfl, rfl, h0, r0⟩ := trodAll_cons hA
  obtain ⟨v1, vs1, d1, ds1, p1, q1, rfl, rfl, rfl, h1, r1⟩ := trodAll_cons r0
  obtain ⟨v2, vs2, d2, ds2, p2, q2, rfl, rfl, rfl, h2, r2⟩ := trodAll_cons r1
  obtain ⟨v3, vs3, d3, ds3, p3, q3, rfl, rfl, rfl, h3, r3⟩ := trodAll_cons r2
  obtain ⟨rfl, rfl, rfl⟩ := trodAll_nil r3
  obtain rfl : args = #[v0, v1, v2, v3] := by cases args; simp_all
  obtain ⟨x, rfl, xlo, xhi⟩ := open_u8i (hval 0 5 v0 rfl rfl) h0
  obtain ⟨y, rfl, ylo, yhi⟩ := open_u8i (hval 1 5 v1 rfl rfl) h1
  obtain ⟨z, rfl, zlo, zhi⟩ := open_u8i (hval 2 5 v2 rfl rfl) h2
  obtain ⟨u, rfl, ulo, uhi⟩ := open_u8i (hval 3 5 v3 rfl rfl) h3
  refine (walk (w := W) x xlo xhi y ylo yhi z zlo zhi u ulo uhi).mono fun e W' ⟨he, hb⟩ => ?_
  subst he
  exact ⟨_, rfl, law_post laidOut (by kernel_rfl) rfl rfl Tryz.underlying4 (fun ds h => by match ds, h with | [_, _, _, _], _ => rfl) hW' hb⟩

theorem proved : Rows.WholeRebuildPlanSaid :=
  OpenClaim.holds_of_wide 4 Tryz.f4 rfl rfl rfl rfl rfl rfl rfl ⟨rfl, rfl, rfl, rfl, rfl⟩ rfl rfl rfl rfl rfl (by kernel_rfl) Tryz.func4 (by kernel_rfl)
    (of_decide_eq_true (by kernel_rfl)) (by unfold Func.isWrapper; first | (rw [if_pos (by decide +kernel)]; kernel_rfl) | (rw [if_neg (by decide +kernel)]; exact ⟨rfl, rfl⟩))
    (fun os started H enc _ => lifted os started H enc)
end Go.Proofs.YtdcijljfgcjelaaGreat.LWholeRebuildPlan
