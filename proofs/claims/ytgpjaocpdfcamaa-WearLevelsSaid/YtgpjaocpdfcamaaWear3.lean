/- The walks of the erasure of the reference. No condition. -/
import Derived.Test.YtgpjaocpdfcamaaEng6
import Derived.Test.YtgpjaocpdfcamaaWear2
namespace Go.Proofs.Ytgpjaocpdfcamaa
open Go.RowKit
instance : Inhabited Band := ⟨⟨0, 0, 0, 0⟩⟩
theorem band4 {l : List Band} : ∀ b ∈ l, (Band.cells b).length = 4 := fun _ _ => rfl
theorem elB : Elem Try.prog 22 32 (.agg #[iv 0, iv 0, uv 0, uv 0]) 4 32 := ⟨by kernel_rfl, by kernel_rfl, rfl, by decide⟩
theorem one_bcs (l : List Band) : ∀ u ∈ bcs l, u.oneCell' = true := by
  intro u hu
  obtain ⟨b, _, hb⟩ := List.mem_flatMap.1 hu
  simp only [Band.cells, List.mem_cons, List.not_mem_nil, or_false] at hb
  rcases hb with rfl | rfl | rfl | rfl <;> rfl
/-- What a callee hands back: a list of bands of its own. -/
def newB (l : List Band) (v : Value) (M : List Asrt) : Prop := ∃ A c, v = .slice A l.length c ∧ M = [vec A l.length c 32 4 (bcs l)]
set_option maxRecDepth 20000 in
theorem with_e (A : Option Addr) (c : Nat) (l : List Band) (k : Nat) (b : Band) (hk : k < l.length) (hn2 : l.length ≤ 1000000) (w : World) (hs : Sl w 4 (.slice A l.length c) l.length (bcs l)) :
    Calls Try.prog 16 #[.slice A l.length c, iv k, .agg #[iv b.used, iv b.live, uv b.age, uv b.wear]] w fun e w' => ∃ v M, e = .returned v ∧ H w M w' ∧ newB (l.set k b) v M := by
  refine calls_wc (args := [.slice A l.length c, iv k, .agg #[iv b.used, iv b.live, uv b.age, uv b.wear]]) [6] [] Try.func16 rfl Try.ntmps16 rfl rfl rfl rfl (H.refl w) ?_
  have hl4 := bcs_length l
  (refine WC.seq ?_; intro K hK)
  refine WC.region ?_
  refine WL.want rfl (WL1.box rfl rfl (.mk (v := .agg _) rfl rfl) rfl (fun bk => ?_))
  refine WL.want rfl (WL1.give rfl (g_assign rfl (.mk (v := .slice _ _ _) rfl rfl)) ?_)
  refine WL.nil ?_
  (refine hK _ _ ?_; clear hK)
  (refine WC.seq ?_; intro K hK)
  refine WC.region ?_
  refine WL.want rfl (WL1.lit (cs := []) elB rfl rfl rfl .nil rfl (by simp [Value.cells]) rfl rfl (fun bk => ?_))
  refine WL.want rfl (WL1.give rfl (g_move rfl (.mk (v := .slice _ _ _) rfl rfl)) ?_)
  refine WL.want rfl (WL1.append elB rfl rfl (.mk rfl rfl) (.mk rfl rfl) (.head) (fun w hw => Sl.below hs hw.1) (one_bcs l) (by unfold maxLen; omega) (by omega) (fun A' c' => ?_))
  refine WL.want rfl (WL1.give rfl (g_assign rfl (.mk (v := .slice _ _ _) rfl rfl)) ?_)
  refine WL.nil ?_
  (refine hK _ _ ?_; clear hK)
  (refine WC.seq ?_; intro K hK)
  refine WC.region ?_
  refine WL.want rfl (WL1.give rfl (g_move rfl (.mk (v := .slice _ _ _) rfl rfl)) ?_)
  refine WL.want rfl (WL1.give rfl (g_move rfl (.mk (v := .int _ _) rfl rfl)) ?_)
  refine WL.want rfl (WL1.give rfl (g_loadA rfl (.mk rfl rfl) rfl rfl (rdr_pt (.tail _ (.head _)) (fun j u h => by simpa using h))) ?_)
  refine WL.want rfl (WL1.give rfl (g_indexAddr (sz := 4) rfl (.mk rfl rfl) (.mk rfl rfl) rfl rfl rfl (by omega) (fun w hw => vec_some hw (.head _) (by omega))) ?_)
  refine WL.want rfl (WL1.storeVA rfl rfl (.mk rfl rfl) (.mk rfl rfl) rfl (all1 rfl) (by first | decide | omega | (simp; done) | (simp; omega)) (by first | omega | (simp; done) | (simp; omega)) (.head) ?_)
  refine WL.nil ?_
  (refine hK _ _ ?_; clear hK)
  (refine WC.seq ?_; intro K hK)
  refine WC.region ?_
  refine WL.want rfl (WL1.give rfl (g_move rfl (.mk (v := .slice _ _ _) rfl rfl)) ?_)
  refine WL.want rfl (WL1.give rfl (g_assign rfl (.mk (v := .slice _ _ _) rfl rfl)) ?_)
  refine WL.nil ?_
  (refine hK _ _ ?_; clear hK)
  refine WC.ret ?_
  intro w' hw'
  rw [List.nil_append, show [iv b.used, iv b.live, uv b.age, uv b.wear] = Band.cells b from rfl, show bcs l = l.flatMap Band.cells from rfl, flat_set band4 rfl hk, Nat.zero_add] at hw'
  refine ⟨_, _, rfl, hw'.sub (.cons_cons _ (List.nil_sublist _)), A', c', ?_, ?_⟩
  · show Value.slice A' (0 + l.length) c' = _
    rw [Nat.zero_add, List.length_set]
  · rw [List.length_set]; rfl
end Go.Proofs.Ytgpjaocpdfcamaa
