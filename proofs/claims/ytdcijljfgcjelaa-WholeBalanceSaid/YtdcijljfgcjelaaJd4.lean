/- Texts joined: Top6, Pl7, Pl8, Pl9, Pl10, Top7, Good, Dec6, Dec7, Dec8, Loc, Gg, Gj, Dec5, Dec9, Top8, Mks, Law, Open, Open2, OpenF, OpenG, Top9, Bal1. The parts say what each of them proves. No condition. -/
import Derived.Test.YtdcijljfgcjelaaJd3
import Derived.ProofKit
import Derived.OpenShut
import Derived.Deep.Slices
import Derived.Deep.Fields
import Derived.Test.YtdcijljfgcjelaaRows
import Derived.Lib.SmallJoins
namespace Go.Proofs.Ytdcijljfgcjelaa
set_option maxRecDepth 20000
open Go.RowKit
attribute [local irreducible] Calls
theorem groups_m {v c t s k r h cp : Nat} {A : Option Addr} {rs : List IRow} {R O : Value} (w : World) (hb : t * rs.length ≤ 4096) : Calls Try.prog 36 #[.agg (numC v A c rs t s k r R O h cp).toArray] w fun e w' => e = .returned (iv (t * rs.length : Nat)) ∧ Below w.heap.size w w' := by
  have hm2 : IntKind.i64.wrap ((t : Int) * (rs.length : Nat)) = ((t * rs.length : Nat) : Int) := by rw [← Int.natCast_mul]; exact IntWalk.i64_in _ (by omega)
  refine calls_wc (args := [.agg (numC v A c rs t s k r R O h cp).toArray]) [2] [] Try.func36 rfl Try.ntmps36 rfl rfl rfl rfl (H.refl _) ?_
  refine WC.seq fun K hK => ?_
  refine WC.region rfl ?_
  refine WL.want rfl (WL1.box rfl rfl (.mk (v := .agg _) rfl rfl) rfl (fun b1 => ?_))
  refine wG rfl rfl (g_assign rfl (.mk (v := .int _ _) rfl rfl)) ?_
  refine WL.nil ?_
  (refine hK _ _ ?_; clear hK)
  refine WC.seq fun K hK => ?_
  refine WC.region rfl ?_
  refine wG rfl rfl (g_fieldAddr (off := 0) rfl (.mk rfl rfl) rfl (fun _ _ => rfl)) ?_
  refine wG rfl rfl (g_fieldAddr (off := 2) rfl (.mk rfl rfl) rfl (fun _ _ => rfl)) ?_
  refine wG rfl rfl (g_load rfl (.mk rfl rfl) rfl (rd_pt (.head _) rfl)) ?_
  refine wG rfl rfl (g_fieldAddr (off := 6) rfl (.mk rfl rfl) rfl (fun _ _ => rfl)) ?_
  refine wG rfl rfl (g_load rfl (.mk rfl rfl) rfl (rd_pt (.head _) rfl)) ?_
  refine wG rfl rfl (g_mul rfl (.mk rfl rfl) (.mk rfl rfl) hm2) ?_
  refine wG rfl rfl (g_assign rfl (.mk (v := .int _ _) rfl rfl)) ?_
  refine WL.nil ?_
  (refine hK _ _ ?_; clear hK)
  refine WC.ret ?_
  exact fun w' hw' => ⟨rfl, hw'.1⟩
section
variable {v k r lam t s : Nat} {A : Option Addr} {c : Nat} {rs : List IRow}
theorem Lay.grp' (hy : Lay v k r lam (ils rs) t s) : t * rs.length ≤ 4096 := by have := hy.grp; rwa [List.length_map] at this
theorem lgroups_e (w : World) (hy : Lay v k r lam (ils rs) t s) (hm : IMat w (.slice A rs.length c) rs) : Calls Try.prog 17 #[layV v A c rs t s] w fun e w' => e = .returned (iv (t * rs.length : Nat)) ∧ Below w.heap.size w w' := by
  have hg := hy.grp'
  refine calls_wc (args := [layV v A c rs t s]) [2] [] Try.func17 rfl Try.ntmps17 rfl rfl rfl rfl (H.refl _) ?_
  refine WC.seq fun K hK => ?_
  refine WC.region rfl ?_
  refine WL.want rfl (WL1.box rfl rfl (.mk (v := .agg _) rfl rfl) rfl (fun b1 => ?_))
  refine wG rfl rfl (g_assign rfl (.mk (v := .int _ _) rfl rfl)) ?_
  refine WL.nil ?_
  (refine hK _ _ ?_; clear hK)
  refine WC.seq fun K hK => ?_
  refine WC.region rfl ?_
  refine wG rfl rfl (g_loadA rfl (.mk rfl rfl) rfl rfl (rdr_pt (.head _) (fun j u h => by simpa using h))) ?_
  (refine WL.want rfl (WL1.callN rfl rfl rfl (.cons (.mk (v := .agg _) rfl rfl) .nil) (fun w hw => measure_n w hy (hm.below hw.1)) ?_); rintro _ _ ⟨R, cR, O, cO, rk, on, -, -, rfl, rfl⟩)
  refine wG rfl rfl (g_move rfl (.mk (v := .tuple _) rfl rfl)) ?_
  refine wG rfl rfl (g_extract rfl (.mk rfl rfl) rfl) ?_
  refine wG rfl rfl (g_extract rfl (.mk rfl rfl) rfl) ?_
  refine WL.want rfl (WL1.alloc rfl rfl rfl rfl (fun b3 => ?_))
  refine WL.want rfl (WL1.storeAll rfl rfl (.mk rfl rfl) (.mk rfl rfl) rfl (all1 rfl) (by first | rfl | (simp [Blk.len]; done)) (.head) ?_)
  refine wG rfl rfl (g_assign rfl (.mk (v := .bool _) rfl rfl)) ?_
  refine WL.nil ?_
  (refine hK _ _ ?_; clear hK)
  refine WC.seq fun K hK => ?_
  refine WC.region rfl ?_
  refine wG rfl rfl (g_loadA rfl (.mk rfl rfl) rfl rfl (rdr_pt (.head _) (fun j u h => by simpa using h))) ?_
  refine WL.want rfl (WL1.callP rfl rfl rfl (.cons (.mk (v := .agg _) rfl rfl) .nil) (fun w hw => groups_m w hg) ?_)
  refine wG rfl rfl (g_assign rfl (.mk (v := .int _ _) rfl rfl)) ?_
  refine WL.nil ?_
  (refine hK _ _ ?_; clear hK)
  refine WC.ret ?_
  exact fun w' hw' => ⟨rfl, hw'.1⟩
theorem ldata_e (w : World) (hy : Lay v k r lam (ils rs) t s) (hm : IMat w (.slice A rs.length c) rs) : Calls Try.prog 43 #[layV v A c rs t s] w fun e w' => e = .returned (iv ((k : Int) - 3)) ∧ Below w.heap.size w w' := by
  have h1 := hy.k4
  have h2 := hy.k16
  refine calls_wc (args := [layV v A c rs t s]) [2] [] Try.func43 rfl Try.ntmps43 rfl rfl rfl rfl (H.refl _) ?_
  refine WC.seq fun K hK => ?_
  refine WC.region rfl ?_
  refine WL.want rfl (WL1.box rfl rfl (.mk (v := .agg _) rfl rfl) rfl (fun b1 => ?_))
  refine wG rfl rfl (g_assign rfl (.mk (v := .int _ _) rfl rfl)) ?_
  refine WL.nil ?_
  (refine hK _ _ ?_; clear hK)
  refine WC.seq fun K hK => ?_
  refine WC.region rfl ?_
  refine wG rfl rfl (g_loadA rfl (.mk rfl rfl) rfl rfl (rdr_pt (.head _) (fun j u h => by simpa using h))) ?_
  (refine WL.want rfl (WL1.callN rfl rfl rfl (.cons (.mk (v := .agg _) rfl rfl) .nil) (fun w hw => measure_n w hy (hm.below hw.1)) ?_); rintro _ _ ⟨R, cR, O, cO, rk, on, -, -, rfl, rfl⟩)
  refine wG rfl rfl (g_move rfl (.mk (v := .tuple _) rfl rfl)) ?_
  refine wG rfl rfl (g_extract rfl (.mk rfl rfl) rfl) ?_
  refine wG rfl rfl (g_extract rfl (.mk rfl rfl) rfl) ?_
  refine WL.want rfl (WL1.alloc rfl rfl rfl rfl (fun b3 => ?_))
  refine WL.want rfl (WL1.storeAll rfl rfl (.mk rfl rfl) (.mk rfl rfl) rfl (all1 rfl) (by first | rfl | (simp [Blk.len]; done)) (.head) ?_)
  refine wG rfl rfl (g_assign rfl (.mk (v := .bool _) rfl rfl)) ?_
  refine WL.nil ?_
  (refine hK _ _ ?_; clear hK)
  refine WC.seq fun K hK => ?_
  refine WC.seq fun K hK => ?_
  refine WC.region rfl ?_
  refine wG rfl rfl (g_move rfl (.mk (v := .bool _) rfl rfl)) ?_
  refine wG rfl rfl (g_notT rfl (.mk rfl rfl)) ?_
  refine WL.nil ?_
  (refine hK _ _ ?_; clear hK)
  refine WC.cond_false (.mk rfl rfl) ?_
  refine WC.skip ?_
  (refine hK _ _ ?_; clear hK)
  refine WC.seq fun K hK => ?_
  refine WC.region rfl ?_
  refine wG rfl rfl (g_loadA rfl (.mk rfl rfl) rfl rfl (rdr_pt (.head _) (fun j u h => by simpa using h))) ?_
  refine WL.want rfl (WL1.callP rfl rfl rfl (.cons (.mk (v := .agg _) rfl rfl) .nil) (fun w hw => data_e w (by omega) (by omega)) ?_)
  refine wG rfl rfl (g_assign rfl (.mk (v := .int _ _) rfl rfl)) ?_
  refine WL.nil ?_
  (refine hK _ _ ?_; clear hK)
  refine WC.ret ?_
  exact fun w' hw' => ⟨rfl, hw'.1⟩
theorem lwidth_e (w : World) (hy : Lay v k r lam (ils rs) t s) (hm : IMat w (.slice A rs.length c) rs) : Calls Try.prog 18 #[layV v A c rs t s] w fun e w' => e = .returned (iv k) ∧ Below w.heap.size w w' := by
  refine calls_wc (args := [layV v A c rs t s]) [2] [] Try.func18 rfl Try.ntmps18 rfl rfl rfl rfl (H.refl _) ?_
  refine WC.seq fun K hK => ?_
  refine WC.region rfl ?_
  refine WL.want rfl (WL1.box rfl rfl (.mk (v := .agg _) rfl rfl) rfl (fun b1 => ?_))
  refine wG rfl rfl (g_assign rfl (.mk (v := .int _ _) rfl rfl)) ?_
  refine WL.nil ?_
  (refine hK _ _ ?_; clear hK)
  refine WC.seq fun K hK => ?_
  refine WC.region rfl ?_
  refine wG rfl rfl (g_loadA rfl (.mk rfl rfl) rfl rfl (rdr_pt (.head _) (fun j u h => by simpa using h))) ?_
  (refine WL.want rfl (WL1.callN rfl rfl rfl (.cons (.mk (v := .agg _) rfl rfl) .nil) (fun w hw => measure_n w hy (hm.below hw.1)) ?_); rintro _ _ ⟨R, cR, O, cO, rk, on, -, -, rfl, rfl⟩)
  refine wG rfl rfl (g_move rfl (.mk (v := .tuple _) rfl rfl)) ?_
  refine wG rfl rfl (g_extract rfl (.mk rfl rfl) rfl) ?_
  refine wG rfl rfl (g_extract rfl (.mk rfl rfl) rfl) ?_
  refine WL.want rfl (WL1.alloc rfl rfl rfl rfl (fun b3 => ?_))
  refine WL.want rfl (WL1.storeAll rfl rfl (.mk rfl rfl) (.mk rfl rfl) rfl (all1 rfl) (by first | rfl | (simp [Blk.len]; done)) (.head) ?_)
  refine wG rfl rfl (g_assign rfl (.mk (v := .bool _) rfl rfl)) ?_
  refine WL.nil ?_
  (refine hK _ _ ?_; clear hK)
  refine WC.seq fun K hK => ?_
  refine WC.region rfl ?_
  refine wG rfl rfl (g_fieldAddr (off := 4) rfl (.mk rfl rfl) rfl (fun _ _ => rfl)) ?_
  refine wG rfl rfl (g_load rfl (.mk rfl rfl) rfl (rd_pt (.head _) rfl)) ?_
  refine wG rfl rfl (g_assign rfl (.mk (v := .int _ _) rfl rfl)) ?_
  refine WL.nil ?_
  (refine hK _ _ ?_; clear hK)
  refine WC.ret ?_
  exact fun w' hw' => ⟨rfl, hw'.1⟩
theorem lblocks_e (w : World) (hy : Lay v k r lam (ils rs) t s) (hm : IMat w (.slice A rs.length c) rs) : Calls Try.prog 16 #[layV v A c rs t s] w fun e w' => e = .returned (iv ((t * r : Nat) + (s : Int))) ∧ Below w.heap.size w w' := by
  refine calls_wc (args := [layV v A c rs t s]) [2] [] Try.func16 rfl Try.ntmps16 rfl rfl rfl rfl (H.refl _) ?_
  refine WC.seq fun K hK => ?_
  refine WC.region rfl ?_
  refine WL.want rfl (WL1.box rfl rfl (.mk (v := .agg _) rfl rfl) rfl (fun b1 => ?_))
  refine wG rfl rfl (g_assign rfl (.mk (v := .int _ _) rfl rfl)) ?_
  refine WL.nil ?_
  (refine hK _ _ ?_; clear hK)
  refine WC.seq fun K hK => ?_
  refine WC.region rfl ?_
  refine wG rfl rfl (g_loadA rfl (.mk rfl rfl) rfl rfl (rdr_pt (.head _) (fun j u h => by simpa using h))) ?_
  (refine WL.want rfl (WL1.callN rfl rfl rfl (.cons (.mk (v := .agg _) rfl rfl) .nil) (fun w hw => measure_n w hy (hm.below hw.1)) ?_); rintro _ _ ⟨R, cR, O, cO, rk, on, -, -, rfl, rfl⟩)
  refine wG rfl rfl (g_move rfl (.mk (v := .tuple _) rfl rfl)) ?_
  refine wG rfl rfl (g_extract rfl (.mk rfl rfl) rfl) ?_
  refine wG rfl rfl (g_extract rfl (.mk rfl rfl) rfl) ?_
  refine WL.want rfl (WL1.alloc rfl rfl rfl rfl (fun b3 => ?_))
  refine WL.want rfl (WL1.storeAll rfl rfl (.mk rfl rfl) (.mk rfl rfl) rfl (all1 rfl) (by first | rfl | (simp [Blk.len]; done)) (.head) ?_)
  refine wG rfl rfl (g_assign rfl (.mk (v := .bool _) rfl rfl)) ?_
  refine WL.nil ?_
  (refine hK _ _ ?_; clear hK)
  refine WC.seq fun K hK => ?_
  refine WC.region rfl ?_
  refine wG rfl rfl (g_fieldAddr (off := 10) rfl (.mk rfl rfl) rfl (fun _ _ => rfl)) ?_
  refine wG rfl rfl (g_load rfl (.mk rfl rfl) rfl (rd_pt (.head _) rfl)) ?_
  refine wG rfl rfl (g_assign rfl (.mk (v := .int _ _) rfl rfl)) ?_
  refine WL.nil ?_
  (refine hK _ _ ?_; clear hK)
  refine WC.ret ?_
  exact fun w' hw' => ⟨rfl, hw'.1⟩
theorem lvalid_e (w : World) (hy : Lay v k r lam (ils rs) t s) (hm : IMat w (.slice A rs.length c) rs) : Calls Try.prog 15 #[layV v A c rs t s] w fun e w' => e = .returned (.bool true) ∧ Below w.heap.size w w' := by
  refine calls_wc (args := [layV v A c rs t s]) [2] [] Try.func15 rfl Try.ntmps15 rfl rfl rfl rfl (H.refl _) ?_
  refine WC.seq fun K hK => ?_
  refine WC.region rfl ?_
  refine WL.want rfl (WL1.box rfl rfl (.mk (v := .agg _) rfl rfl) rfl (fun b1 => ?_))
  refine wG rfl rfl (g_assign rfl (.mk (v := .bool _) rfl rfl)) ?_
  refine WL.nil ?_
  (refine hK _ _ ?_; clear hK)
  refine WC.seq fun K hK => ?_
  refine WC.region rfl ?_
  refine wG rfl rfl (g_loadA rfl (.mk rfl rfl) rfl rfl (rdr_pt (.head _) (fun j u h => by simpa using h))) ?_
  (refine WL.want rfl (WL1.callN rfl rfl rfl (.cons (.mk (v := .agg _) rfl rfl) .nil) (fun w hw => measure_n w hy (hm.below hw.1)) ?_); rintro _ _ ⟨R, cR, O, cO, rk, on, -, -, rfl, rfl⟩)
  refine wG rfl rfl (g_move rfl (.mk (v := .tuple _) rfl rfl)) ?_
  refine wG rfl rfl (g_extract rfl (.mk rfl rfl) rfl) ?_
  refine wG rfl rfl (g_extract rfl (.mk rfl rfl) rfl) ?_
  refine WL.want rfl (WL1.alloc rfl rfl rfl rfl (fun b3 => ?_))
  refine WL.want rfl (WL1.storeAll rfl rfl (.mk rfl rfl) (.mk rfl rfl) rfl (all1 rfl) (by first | rfl | (simp [Blk.len]; done)) (.head) ?_)
  refine wG rfl rfl (g_assign rfl (.mk (v := .bool _) rfl rfl)) ?_
  refine WL.nil ?_
  (refine hK _ _ ?_; clear hK)
  refine WC.seq fun K hK => ?_
  refine WC.region rfl ?_
  refine wG rfl rfl (g_move rfl (.mk (v := .bool _) rfl rfl)) ?_
  refine wG rfl rfl (g_assign rfl (.mk (v := .bool _) rfl rfl)) ?_
  refine WL.nil ?_
  (refine hK _ _ ?_; clear hK)
  refine WC.ret ?_
  exact fun w' hw' => ⟨rfl, hw'.1⟩
theorem lslots_e (w : World) (hy : Lay v k r lam (ils rs) t s) (hm : IMat w (.slice A rs.length c) rs) : Calls Try.prog 22 #[layV v A c rs t s] w fun e w' => e = .returned (iv (t * rs.length * (k - 3) : Nat)) ∧ Below w.heap.size w w' := by
  have h1 := hy.k4
  have hs := hy.slt
  rw [List.length_map] at hs
  have hm3 : IntKind.i64.wrap (((t * rs.length : Nat) : Int) * ((k : Int) - 3)) = ((t * rs.length * (k - 3) : Nat) : Int) := by
    rw [show (k : Int) - 3 = ((k - 3 : Nat) : Int) from by omega, ← Int.natCast_mul]; exact IntWalk.i64_in _ (by omega)
  have hgr : ∀ w', Below w.heap.size w w' → _ := fun w' hb => lgroups_e w' hy (hm.below hb)
  have hda : ∀ w', Below w.heap.size w w' → _ := fun w' hb => ldata_e w' hy (hm.below hb)
  refine calls_wc (args := [layV v A c rs t s]) [2] [] Try.func22 rfl Try.ntmps22 rfl rfl rfl rfl (H.refl _) ?_
  refine WC.seq fun K hK => ?_
  refine WC.region rfl ?_
  refine WL.want rfl (WL1.box rfl rfl (.mk (v := .agg _) rfl rfl) rfl (fun b1 => ?_))
  refine wG rfl rfl (g_assign rfl (.mk (v := .int _ _) rfl rfl)) ?_
  refine WL.nil ?_
  (refine hK _ _ ?_; clear hK)
  refine WC.seq fun K hK => ?_
  refine WC.held [pt b1 LT [iv v, .slice A rs.length c, iv t, iv s]] rfl (by kernel_rfl) ?_
  refine WH.take 0 rfl (by decide +kernel) (by decide +kernel) (by decide +kernel) rfl rfl (Imp.sub (by first | ((repeat (first | exact List.nil_sublist _ | exact List.Sublist.refl _ | apply List.Sublist.cons_cons | apply List.Sublist.cons)); done) | fail)) (g_loadA rfl (.mk rfl rfl) rfl rfl (rdr_pt (.head _) (fun j u h => by simpa using h))) ?_
  refine WH.take 2 rfl (by decide +kernel) (by decide +kernel) (by decide +kernel) rfl rfl (Imp.sub (by first | ((repeat (first | exact List.nil_sublist _ | exact List.Sublist.refl _ | apply List.Sublist.cons_cons | apply List.Sublist.cons)); done) | fail)) (g_loadA rfl (.mk rfl rfl) rfl rfl (rdr_pt (.head _) (fun j u h => by simpa using h))) ?_
  refine WH.one 1 (by decide +kernel) rfl rfl ?_
  refine WL1.callP rfl rfl rfl (.cons (.mk (v := .agg _) rfl rfl) .nil) (fun w hw => hgr w hw.1) ?_
  refine WL.nil ?_
  refine ⟨(Imp.sub (by first | ((repeat (first | exact List.nil_sublist _ | exact List.Sublist.refl _ | apply List.Sublist.cons_cons | apply List.Sublist.cons)); done) | fail)), ?_⟩
  refine WH.one 3 (by decide +kernel) rfl rfl ?_
  refine WL1.callP rfl rfl rfl (.cons (.mk (v := .agg _) rfl rfl) .nil) (fun w hw => hda w hw.1) ?_
  refine WL.nil ?_
  refine ⟨(Imp.sub (by first | ((repeat (first | exact List.nil_sublist _ | exact List.Sublist.refl _ | apply List.Sublist.cons_cons | apply List.Sublist.cons)); done) | fail)), ?_⟩
  refine WH.take 4 rfl (by decide +kernel) (by decide +kernel) (by decide +kernel) rfl rfl (Imp.sub (by first | ((repeat (first | exact List.nil_sublist _ | exact List.Sublist.refl _ | apply List.Sublist.cons_cons | apply List.Sublist.cons)); done) | fail)) (g_mul rfl (.mk rfl rfl) (.mk rfl rfl) hm3) ?_
  refine WH.take 5 rfl (by decide +kernel) (by decide +kernel) (by decide +kernel) rfl rfl (Imp.sub (by first | ((repeat (first | exact List.nil_sublist _ | exact List.Sublist.refl _ | apply List.Sublist.cons_cons | apply List.Sublist.cons)); done) | fail)) (g_assign rfl (.mk (v := .int _ _) rfl rfl)) ?_
  refine WH.done (by decide +kernel) ?_
  (refine hK _ _ ?_; clear hK)
  refine WC.ret ?_
  exact fun w' hw' => ⟨rfl, hw'.1⟩
end
end Go.Proofs.Ytdcijljfgcjelaa
namespace Go.Proofs.Ytdcijljfgcjelaa
set_option maxRecDepth 20000
open Go.RowKit
attribute [local irreducible] Calls
theorem irow_at {w : World} {v : Value} {rs : List IRow} (h : IMat w v rs) {i : Nat} (hi : i < rs.length) : ∃ A c, nth rs i = ⟨A, c, nth (ils rs) i⟩ ∧ Sl w 1 (.slice A (nth (ils rs) i).length c) (nth (ils rs) i).length (ldv (nth (ils rs) i)) := by
  have h1 := h.row hi
  have h2 : nth (ils rs) i = (nth rs i).l := nth_map IRow.l hi
  rw [h2]
  refine ⟨(nth rs i).A, (nth rs i).c, rfl, h1⟩
abbrev PT : TypeId := 54
set_option maxHeartbeats 2000000 in
theorem nhome_e {v c t s k r h cp G T g0 p a dk b cR : Nat} {A R : Option Addr} {rs rk : List IRow} {O : Value} (w : World) (hm : IMat w (.slice A rs.length c) rs) (hmk : IMat w (.slice R rk.length cR) rk)
    (hG : G = T * rs.length + g0) (hg0 : g0 < rs.length) (hrl : rk.length = rs.length) (hl : (nth (ils rs) g0).length = k) (hlk : (nth (ils rk) g0).length = k) (ha : a = (p + T) % k) (hdk : nth (nth (ils rs) g0) a = dk) (hb : T * r + nth (nth (ils rk) g0) a = b)
    (hT : T ≤ 1000) (hr : r ≤ 100000) (hb2 : b ≤ 1000000000) (hk1 : 1 ≤ k) (hp : p ≤ 1000) (hn : rs.length ≤ 4096) :
    Calls Try.prog 38 #[.agg (numC v A c rs t s k r (.slice R rk.length cR) O h cp).toArray, iv G, iv p] w fun e w' => e = .returned (.agg #[iv dk, iv b]) ∧ Below w.heap.size w w' := by
  show Calls Try.prog 38 #[.agg #[iv v, .slice A rs.length c, iv t, iv s, iv k, iv r, iv rs.length, .slice R rk.length cR, O, iv h, iv cp], iv G, iv p] w _
  obtain ⟨A1, c1, e1, s1⟩ := irow_at hm hg0
  obtain ⟨A2, c2, e2, s2⟩ := irow_at hmk (i := g0) (by omega)
  have hak : a < k := by rw [ha]; exact Nat.mod_lt _ (by omega)
  have i1 : (rs.map IRow.v)[g0 * 1]? = some (.slice A1 (nth (ils rs) g0).length c1) := by rw [irowv_get hg0, e1]; rfl
  have i2 : (rk.map IRow.v)[g0 * 1]? = some (.slice A2 (nth (ils rk) g0).length c2) := by rw [irowv_get (by omega), e2]; rfl
  have i3 := ldv_get (ld := nth (ils rs) g0) (k := a) (by omega)
  have i4 := ldv_get (ld := nth (ils rk) g0) (k := a) (by omega)
  rw [hdk] at i3
  rw [hl] at i1 s1
  rw [hlk] at i2 s2
  obtain ⟨y, hy⟩ : ∃ y, y = nth (nth (ils rk) g0) a := ⟨_, rfl⟩
  rw [← hy] at hb i4
  clear e1 e2 hl hlk hdk hy
  generalize nth (ils rs) g0 = l1 at *
  generalize nth (ils rk) g0 = l2 at *
  have hm1 := hm.1
  have hm2 := hmk.1
  generalize rs.map IRow.v = V1 at *
  generalize rk.map IRow.v = V2 at *
  rw [hrl] at hm2
  have hGb : G ≤ 5000000 := by
    have : T * rs.length ≤ 1000 * 4096 := Nat.mul_le_mul hT hn
    omega
  have q1 : IntKind.i64.wrap ((G : Int).tdiv (rs.length : Nat)) = (T : Int) := by
    rw [show (G : Int).tdiv (rs.length : Nat) = ((G / rs.length : Nat) : Int) from rfl, show G / rs.length = T from by rw [hG, Nat.mul_comm, Nat.mul_add_div (by omega), Nat.div_eq_of_lt hg0, Nat.add_zero]]
    exact IntWalk.i64_in _ (by omega)
  have q2 : (G : Int).tmod (rs.length : Nat) = (g0 : Int) := by
    rw [show (G : Int).tmod (rs.length : Nat) = ((G % rs.length : Nat) : Int) from rfl, show G % rs.length = g0 from by rw [hG, Nat.mul_comm, Nat.mul_add_mod, Nat.mod_eq_of_lt hg0]]
  have q3 : ((p : Int) + T).tmod k = (a : Int) := by
    rw [ha, show (p : Int) + T = ((p + T : Nat) : Int) from by omega]; rfl
  have q4 : IntKind.i64.wrap ((T : Int) * r) = ((T * r : Nat) : Int) := by rw [← Int.natCast_mul]; exact IntWalk.i64_in _ (by omega)
  have hb' : ((T * r : Nat) : Int) + (y : Int) = b := by omega
  have hTr : T * r ≤ 1000000000 := by omega
  have hyb : (y : Int) ≤ 1000000000 := by omega
  rw [← hb']
  clear hG hb' hb
  generalize T * r = tr at *
  rw [hrl]
  generalize rs.length = n at *
  refine calls_wcG (args := [.agg #[iv v, .slice A n c, iv t, iv s, iv k, iv r, iv n, .slice R n cR, O, iv h, iv cp], iv G, iv p]) [.cell 6 54] [] Try.func38 rfl Try.ntmps38 rfl rfl (H.refl _) ?_
  refine WC.seq fun K hK => ?_
  refine WC.region rfl ?_
  refine WL.want rfl (WL1.box rfl rfl (.mk (v := .agg _) rfl rfl) rfl (fun b3 => ?_))
  refine WL.want rfl (WL1.alloc rfl rfl rfl rfl (fun b6 => ?_))
  refine WL.nil ?_
  (refine hK _ _ ?_; clear hK)
  refine WC.seq fun K hK => ?_
  refine WC.quiet rfl (by kernel_rfl) (by decide +kernel) ?_
  refine WQ.want rfl (WQ1.give rfl (g_move rfl (.mk (v := .int _ _) rfl rfl)) ?_)
  refine WQ.want rfl (WQ1.give rfl (g_fieldAddr (off := 6) rfl (.mk rfl rfl) rfl (fun _ _ => rfl)) ?_)
  refine WQ.want rfl (WQ1.give rfl (g_load rfl (.mk rfl rfl) rfl (rd_pt (.tail _ (.head _)) rfl)) ?_)
  refine WQ.want rfl (WQ1.give rfl (g_quo rfl (.mk rfl rfl) (.mk rfl rfl) (by omega) q1) ?_)
  refine WQ.want rfl (WQ1.give rfl (g_move rfl (.mk (v := .int _ _) rfl rfl)) ?_)
  refine WQ.want rfl (WQ1.give rfl (g_fieldAddr (off := 6) rfl (.mk rfl rfl) rfl (fun _ _ => rfl)) ?_)
  refine WQ.want rfl (WQ1.give rfl (g_load rfl (.mk rfl rfl) rfl (rd_pt (.tail _ (.head _)) rfl)) ?_)
  refine WQ.want rfl (WQ1.give rfl (g_rem rfl (.mk rfl rfl) (.mk rfl rfl) (by omega) q2) ?_)
  refine WQ.want rfl (WQ1.give rfl (g_assign rfl (.mk (v := .int _ _) rfl rfl)) ?_)
  refine WQ.want rfl (WQ1.give rfl (g_assign rfl (.mk (v := .int _ _) rfl rfl)) ?_)
  refine WQ.nil ?_
  (refine hK _ _ ?_; clear hK)
  refine WC.seq fun K hK => ?_
  refine WC.region rfl ?_
  refine wG rfl rfl (g_move rfl (.mk (v := .int _ _) rfl rfl)) ?_
  refine wG rfl rfl (g_move rfl (.mk (v := .int _ _) rfl rfl)) ?_
  refine wG rfl rfl (g_add rfl (.mk rfl rfl) (.mk rfl rfl) (IntWalk.i64_in _ (by omega))) ?_
  refine wG rfl rfl (g_fieldAddr (off := 4) rfl (.mk rfl rfl) rfl (fun _ _ => rfl)) ?_
  refine wG rfl rfl (g_load rfl (.mk rfl rfl) rfl (rd_pt (.tail _ (.head _)) rfl)) ?_
  refine wG rfl rfl (g_rem rfl (.mk rfl rfl) (.mk rfl rfl) (by omega) q3) ?_
  refine wG rfl rfl (g_assign rfl (.mk (v := .int _ _) rfl rfl)) ?_
  refine WL.nil ?_
  (refine hK _ _ ?_; clear hK)
  refine WC.seq fun K hK => ?_
  refine WC.untilL [24] rfl (by kernel_rfl) ?_
  refine WB.takeP 0 rfl (by decide +kernel) (by decide +kernel) (by decide +kernel) (by decide +kernel) rfl rfl (.inr (Imp.sub (by first | ((repeat (first | exact List.nil_sublist _ | exact List.Sublist.refl _ | apply List.Sublist.cons_cons | apply List.Sublist.cons)); done) | fail))) (g_fieldAddr (off := 0) rfl (.mk rfl rfl) rfl (fun _ _ => rfl)) ?_
  refine WB.takeP 1 rfl (by decide +kernel) (by decide +kernel) (by decide +kernel) (by decide +kernel) rfl rfl (.inr (Imp.sub (by first | ((repeat (first | exact List.nil_sublist _ | exact List.Sublist.refl _ | apply List.Sublist.cons_cons | apply List.Sublist.cons)); done) | fail))) (g_fieldAddr (off := 0) rfl (.mk rfl rfl) rfl (fun _ _ => rfl)) ?_
  refine WB.takeP 2 rfl (by decide +kernel) (by decide +kernel) (by decide +kernel) (by decide +kernel) rfl rfl (.inr (Imp.sub (by first | ((repeat (first | exact List.nil_sublist _ | exact List.Sublist.refl _ | apply List.Sublist.cons_cons | apply List.Sublist.cons)); done) | fail))) (g_fieldAddr (off := 1) rfl (.mk rfl rfl) rfl (fun _ _ => rfl)) ?_
  refine WB.take 3 rfl (by decide +kernel) (by decide +kernel) (by decide +kernel) (by decide +kernel) rfl rfl (Imp.sub (by first | ((repeat (first | exact List.nil_sublist _ | exact List.Sublist.refl _ | apply List.Sublist.cons_cons | apply List.Sublist.cons)); done) | fail)) (g_load rfl (.mk rfl rfl) rfl (rd_pt (.tail _ (.head _)) rfl)) ?_
  refine WB.takeP 4 rfl (by decide +kernel) (by decide +kernel) (by decide +kernel) (by decide +kernel) rfl rfl (.inr (Imp.sub (by first | ((repeat (first | exact List.nil_sublist _ | exact List.Sublist.refl _ | apply List.Sublist.cons_cons | apply List.Sublist.cons)); done) | fail))) (g_move rfl (.mk (v := .int _ _) rfl rfl)) ?_
  refine WB.takeP 5 rfl (by decide +kernel) (by decide +kernel) (by decide +kernel) (by decide +kernel) rfl rfl (.inr (Imp.sub (by first | ((repeat (first | exact List.nil_sublist _ | exact List.Sublist.refl _ | apply List.Sublist.cons_cons | apply List.Sublist.cons)); done) | fail))) (g_indexAddr (sz := 1) rfl (.mk rfl rfl) (.mk rfl rfl) rfl rfl rfl (by omega) (fun _ _ => sl_some hm1 (by omega))) ?_
  refine WB.take 6 rfl (by decide +kernel) (by decide +kernel) (by decide +kernel) (by decide +kernel) rfl rfl (Imp.sub (by first | ((repeat (first | exact List.nil_sublist _ | exact List.Sublist.refl _ | apply List.Sublist.cons_cons | apply List.Sublist.cons)); done) | fail)) (g_load rfl (.mk rfl rfl) rfl (rd_sl hm1 i1)) ?_
  refine WB.takeP 7 rfl (by decide +kernel) (by decide +kernel) (by decide +kernel) (by decide +kernel) rfl rfl (.inr (Imp.sub (by first | ((repeat (first | exact List.nil_sublist _ | exact List.Sublist.refl _ | apply List.Sublist.cons_cons | apply List.Sublist.cons)); done) | fail))) (g_move rfl (.mk (v := .int _ _) rfl rfl)) ?_
  refine WB.takeP 8 rfl (by decide +kernel) (by decide +kernel) (by decide +kernel) (by decide +kernel) rfl rfl (.inr (Imp.sub (by first | ((repeat (first | exact List.nil_sublist _ | exact List.Sublist.refl _ | apply List.Sublist.cons_cons | apply List.Sublist.cons)); done) | fail))) (g_indexAddr (sz := 1) rfl (.mk rfl rfl) (.mk rfl rfl) rfl rfl rfl (by omega) (fun _ _ => sl_some s1 (by omega))) ?_
  refine WB.take 9 rfl (by decide +kernel) (by decide +kernel) (by decide +kernel) (by decide +kernel) rfl rfl (Imp.sub (by first | ((repeat (first | exact List.nil_sublist _ | exact List.Sublist.refl _ | apply List.Sublist.cons_cons | apply List.Sublist.cons)); done) | fail)) (g_load rfl (.mk rfl rfl) rfl (rd_sl s1 i3)) ?_
  refine WB.takeP 10 rfl (by decide +kernel) (by decide +kernel) (by decide +kernel) (by decide +kernel) rfl rfl (.inr (Imp.sub (by first | ((repeat (first | exact List.nil_sublist _ | exact List.Sublist.refl _ | apply List.Sublist.cons_cons | apply List.Sublist.cons)); done) | fail))) (g_move rfl (.mk (v := .int _ _) rfl rfl)) ?_
  refine WB.takeP 11 rfl (by decide +kernel) (by decide +kernel) (by decide +kernel) (by decide +kernel) rfl rfl (.inr (Imp.sub (by first | ((repeat (first | exact List.nil_sublist _ | exact List.Sublist.refl _ | apply List.Sublist.cons_cons | apply List.Sublist.cons)); done) | fail))) (g_fieldAddr (off := 5) rfl (.mk rfl rfl) rfl (fun _ _ => rfl)) ?_
  refine WB.take 12 rfl (by decide +kernel) (by decide +kernel) (by decide +kernel) (by decide +kernel) rfl rfl (Imp.sub (by first | ((repeat (first | exact List.nil_sublist _ | exact List.Sublist.refl _ | apply List.Sublist.cons_cons | apply List.Sublist.cons)); done) | fail)) (g_load rfl (.mk rfl rfl) rfl (rd_pt (.tail _ (.head _)) rfl)) ?_
  refine WB.takeP 13 rfl (by decide +kernel) (by decide +kernel) (by decide +kernel) (by decide +kernel) rfl rfl (.inr (Imp.sub (by first | ((repeat (first | exact List.nil_sublist _ | exact List.Sublist.refl _ | apply List.Sublist.cons_cons | apply List.Sublist.cons)); done) | fail))) (g_mul rfl (.mk rfl rfl) (.mk rfl rfl) q4) ?_
  refine WB.takeP 14 rfl (by decide +kernel) (by decide +kernel) (by decide +kernel) (by decide +kernel) rfl rfl (.inr (Imp.sub (by first | ((repeat (first | exact List.nil_sublist _ | exact List.Sublist.refl _ | apply List.Sublist.cons_cons | apply List.Sublist.cons)); done) | fail))) (g_fieldAddr (off := 7) rfl (.mk rfl rfl) rfl (fun _ _ => rfl)) ?_
  refine WB.take 15 rfl (by decide +kernel) (by decide +kernel) (by decide +kernel) (by decide +kernel) rfl rfl (Imp.sub (by first | ((repeat (first | exact List.nil_sublist _ | exact List.Sublist.refl _ | apply List.Sublist.cons_cons | apply List.Sublist.cons)); done) | fail)) (g_load rfl (.mk rfl rfl) rfl (rd_pt (.tail _ (.head _)) rfl)) ?_
  refine WB.takeP 16 rfl (by decide +kernel) (by decide +kernel) (by decide +kernel) (by decide +kernel) rfl rfl (.inr (Imp.sub (by first | ((repeat (first | exact List.nil_sublist _ | exact List.Sublist.refl _ | apply List.Sublist.cons_cons | apply List.Sublist.cons)); done) | fail))) (g_move rfl (.mk (v := .int _ _) rfl rfl)) ?_
  refine WB.takeP 17 rfl (by decide +kernel) (by decide +kernel) (by decide +kernel) (by decide +kernel) rfl rfl (.inr (Imp.sub (by first | ((repeat (first | exact List.nil_sublist _ | exact List.Sublist.refl _ | apply List.Sublist.cons_cons | apply List.Sublist.cons)); done) | fail))) (g_indexAddr (sz := 1) rfl (.mk rfl rfl) (.mk rfl rfl) rfl rfl rfl (by omega) (fun _ _ => sl_some hm2 (by omega))) ?_
  refine WB.take 18 rfl (by decide +kernel) (by decide +kernel) (by decide +kernel) (by decide +kernel) rfl rfl (Imp.sub (by first | ((repeat (first | exact List.nil_sublist _ | exact List.Sublist.refl _ | apply List.Sublist.cons_cons | apply List.Sublist.cons)); done) | fail)) (g_load rfl (.mk rfl rfl) rfl (rd_sl hm2 i2)) ?_
  refine WB.takeP 19 rfl (by decide +kernel) (by decide +kernel) (by decide +kernel) (by decide +kernel) rfl rfl (.inr (Imp.sub (by first | ((repeat (first | exact List.nil_sublist _ | exact List.Sublist.refl _ | apply List.Sublist.cons_cons | apply List.Sublist.cons)); done) | fail))) (g_move rfl (.mk (v := .int _ _) rfl rfl)) ?_
  refine WB.takeP 20 rfl (by decide +kernel) (by decide +kernel) (by decide +kernel) (by decide +kernel) rfl rfl (.inr (Imp.sub (by first | ((repeat (first | exact List.nil_sublist _ | exact List.Sublist.refl _ | apply List.Sublist.cons_cons | apply List.Sublist.cons)); done) | fail))) (g_indexAddr (sz := 1) rfl (.mk rfl rfl) (.mk rfl rfl) rfl rfl rfl (by omega) (fun _ _ => sl_some s2 (by omega))) ?_
  refine WB.take 21 rfl (by decide +kernel) (by decide +kernel) (by decide +kernel) (by decide +kernel) rfl rfl (Imp.sub (by first | ((repeat (first | exact List.nil_sublist _ | exact List.Sublist.refl _ | apply List.Sublist.cons_cons | apply List.Sublist.cons)); done) | fail)) (g_load rfl (.mk rfl rfl) rfl (rd_sl s2 i4)) ?_
  refine WB.takeP 22 rfl (by decide +kernel) (by decide +kernel) (by decide +kernel) (by decide +kernel) rfl rfl (.inr (Imp.sub (by first | ((repeat (first | exact List.nil_sublist _ | exact List.Sublist.refl _ | apply List.Sublist.cons_cons | apply List.Sublist.cons)); done) | fail))) (g_add rfl (.mk rfl rfl) (.mk rfl rfl) (IntWalk.i64_in _ (by omega))) ?_
  refine WB.takeP 23 rfl (by decide +kernel) (by decide +kernel) (by decide +kernel) (by decide +kernel) rfl rfl (.inr (Imp.sub (by first | ((repeat (first | exact List.nil_sublist _ | exact List.Sublist.refl _ | apply List.Sublist.cons_cons | apply List.Sublist.cons)); done) | fail))) (g_build (cs := [_, _]) rfl rfl rfl rfl (.cons (.mk (v := .int _ _) rfl rfl) (.cons (.mk (v := .int _ _) rfl rfl) .nil)) rfl rfl rfl) ?_
  refine WB.one 24 (by decide +kernel) rfl rfl ?_
  refine WL1.storeAll rfl rfl (.mk rfl rfl) (.mk rfl rfl) rfl (all1 rfl) (by first | rfl | (simp [Blk.len]; done)) (.head) ?_
  refine WL.nil ?_
  refine ⟨.inl (by decide +kernel), ?_⟩
  refine WB.done (by decide +kernel) ?_
  (refine hK _ _ ?_; clear hK)
  refine WC.ret ?_
  exact ⟨_, .cell rfl rfl rfl rfl (by first | ((repeat (first | exact .head _ | apply List.Mem.tail)); done) | fail) .nil, fun w' hw' => ⟨rfl, hw'.1⟩⟩
set_option maxHeartbeats 2000000 in
theorem nhas_e {v c t s k r h cp G p n : Nat} {A : Option Addr} {rs : List IRow} {R O : Value} (w : World) (hn : t * rs.length = n) (hG : G < n) (hp : p < k) (hk : k ≤ 100) (hb : n ≤ 4096) :
    Calls Try.prog 37 #[.agg (numC v A c rs t s k r R O h cp).toArray, iv G, iv p] w fun e w' => e = .returned (.bool true) ∧ Below w.heap.size w w' := by
  have hg := fun w => groups_m (v := v) (c := c) (t := t) (s := s) (k := k) (r := r) (h := h) (cp := cp) (A := A) (rs := rs) (R := R) (O := O) w (by omega)
  rw [hn] at hg
  refine calls_wc (args := [.agg (numC v A c rs t s k r R O h cp).toArray, iv G, iv p]) [6] [] Try.func37 rfl Try.ntmps37 rfl rfl rfl rfl (H.refl _) ?_
  refine WC.seq fun K hK => ?_
  refine WC.region rfl ?_
  refine WL.want rfl (WL1.box rfl rfl (.mk (v := .agg _) rfl rfl) rfl (fun b3 => ?_))
  refine wG rfl rfl (g_assign rfl (.mk (v := .bool _) rfl rfl)) ?_
  refine WL.nil ?_
  (refine hK _ _ ?_; clear hK)
  refine WC.seq fun K hK => ?_
  refine WC.region rfl ?_
  refine wG rfl rfl (g_move rfl (.mk (v := .int _ _) rfl rfl)) ?_
  refine wG rfl rfl (g_ge rfl (.mk rfl rfl) (.mk rfl rfl) (decide_eq_true (by omega))) ?_
  refine wG rfl rfl (g_move rfl (.mk (v := .bool _) rfl rfl)) ?_
  refine WL.wantG rfl rfl rfl rfl (WL1.give rfl (g_move rfl (.mk (v := .int _ _) rfl rfl)) ?_)
  refine WL.wantG rfl rfl rfl rfl (WL1.give rfl (g_loadA rfl (.mk rfl rfl) rfl rfl (rdr_pt (cs := numC v A c rs t s k r R O h cp) (by first | ((repeat (first | exact .head _ | apply List.Mem.tail)); done) | fail) (fun j u h => by simpa using h))) ?_)
  refine WL.wantG rfl rfl rfl rfl (WL1.callP rfl rfl rfl (.cons (.mk (v := .agg _) rfl rfl) .nil) (fun w hw => hg w) ?_)
  refine WL.wantG rfl rfl rfl rfl (WL1.give rfl (g_lt rfl (.mk rfl rfl) (.mk rfl rfl) (decide_eq_true (by omega))) ?_)
  refine wG rfl rfl (g_pickT rfl (.mk rfl rfl) (.mk (v := .bool _) rfl rfl)) ?_
  refine wG rfl rfl (g_move rfl (.mk (v := .bool _) rfl rfl)) ?_
  refine WL.wantG rfl rfl rfl rfl (WL1.give rfl (g_move rfl (.mk (v := .int _ _) rfl rfl)) ?_)
  refine WL.wantG rfl rfl rfl rfl (WL1.give rfl (g_ge rfl (.mk rfl rfl) (.mk rfl rfl) (decide_eq_true (by omega))) ?_)
  refine wG rfl rfl (g_pickT rfl (.mk rfl rfl) (.mk (v := .bool _) rfl rfl)) ?_
  refine wG rfl rfl (g_move rfl (.mk (v := .bool _) rfl rfl)) ?_
  refine WL.wantG rfl rfl rfl rfl (WL1.give rfl (g_move rfl (.mk (v := .int _ _) rfl rfl)) ?_)
  refine WL.wantG rfl rfl rfl rfl (WL1.give rfl (g_fieldAddr (off := 4) rfl (.mk rfl rfl) rfl (fun _ _ => rfl)) ?_)
  refine WL.wantG rfl rfl rfl rfl (WL1.give rfl (g_load rfl (.mk rfl rfl) rfl (rd_pt (.head _) rfl)) ?_)
  refine WL.wantG rfl rfl rfl rfl (WL1.give rfl (g_lt rfl (.mk rfl rfl) (.mk rfl rfl) (decide_eq_true (by omega))) ?_)
  refine wG rfl rfl (g_pickT rfl (.mk rfl rfl) (.mk (v := .bool _) rfl rfl)) ?_
  refine wG rfl rfl (g_assign rfl (.mk (v := .bool _) rfl rfl)) ?_
  refine WL.nil ?_
  (refine hK _ _ ?_; clear hK)
  refine WC.ret ?_
  exact fun w' hw' => ⟨rfl, hw'.1⟩
section
variable {v k r lam t s : Nat} {A : Option Addr} {c : Nat} {rs : List IRow}
theorem rkF_le {gs : List (List Nat)} {g i : Nat} (h : ∀ j, j < g → (nth gs j).length = k) : rkF gs g i ≤ g * k + i := by
  unfold rkF
  have h1 := onP_len (gdP gs g ++ ((nth gs g).take i).map fun d => (g, d)) (nth (nth gs g) i)
  rw [List.length_append, gdP_len g h, List.length_map, List.length_take] at h1
  omega
set_option maxHeartbeats 2000000 in
theorem lhome_e {T g0 p G : Nat} (w : World) (hy : Lay v k r lam (ils rs) t s) (hm : IMat w (.slice A rs.length c) rs) (hG : G = T * rs.length + g0) (hg0 : g0 < rs.length) (hT : T < t) (hp : p < k) :
    Calls Try.prog 19 #[layV v A c rs t s, iv G, iv p] w fun e w' => e = .returned (.tuple #[.agg #[iv (nth (nth (ils rs) g0) ((p + T) % k) : Nat), iv (T * r + rkF (ils rs) g0 ((p + T) % k) : Nat)], iv 0]) ∧ Below w.heap.size w w' := by
  have hil : (ils rs).length = rs.length := List.length_map _
  have hk4 := hy.k4
  have hk16 := hy.k16
  have ht := hy.t256
  have hcap := hy.cap
  have hgr := hy.grp'
  have hn : rs.length ≤ 4096 := hy.d.cnt.2
  have hl : (nth (ils rs) g0).length = k := hy.d.len g0 (by omega)
  have hGn : G < t * rs.length := by
    have : (T + 1) * rs.length ≤ t * rs.length := Nat.mul_le_mul_right _ hT
    rw [Nat.succ_mul] at this
    omega
  have hTr : T * r ≤ 65536 := by
    have : T * r ≤ t * r := Nat.mul_le_mul_right _ (by omega)
    omega
  have hr : r ≤ 100000 := by
    have : 1 * r ≤ t * r := Nat.mul_le_mul_right _ hy.t1
    omega
  have hak : (p + T) % k < k := Nat.mod_lt _ (by omega)
  have hrk1 : rkF (ils rs) g0 ((p + T) % k) ≤ g0 * k + k := by
    have := rkF_le (i := (p + T) % k) (fun j hj => hy.d.len j (by omega) : ∀ j, j < g0 → (nth (ils rs) j).length = k)
    omega
  have hgk : g0 * k ≤ 4096 * 16 := Nat.mul_le_mul (by omega) hk16
  have hho : ∀ (w : World) (R O : Option Addr) (cR nO cO : Nat) (rk : List IRow), IMat w (.slice A rs.length c) rs → IMat w (.slice R rk.length cR) rk → ils rk = (List.range rs.length).map (rkL (ils rs)) → Calls Try.prog 38 #[.agg (numC v A c rs t s k r (.slice R rk.length cR) (.slice O nO cO) (t * r) (t * r + s)).toArray, iv G, iv p] w fun e w' => e = .returned (.agg #[iv (nth (nth (ils rs) g0) ((p + T) % k) : Nat), iv (T * r + rkF (ils rs) g0 ((p + T) % k) : Nat)]) ∧ Below w.heap.size w w' := fun w R O cR nO cO rk h1 h2 h3 => nhome_e (v := v) (t := t) (s := s) (h := t * r) (cp := t * r + s) (O := .slice O nO cO) w h1 h2 hG hg0 (by have := congrArg List.length h3; simpa using this) hl (by rw [h3, nth_range _ hg0]; show ((List.range _).map _).length = k; rw [List.length_map, List.length_range, hl]) rfl rfl (b := T * r + rkF (ils rs) g0 ((p + T) % k)) (by rw [h3, nth_range _ hg0]; show T * r + nth ((List.range _).map _) _ = _; rw [nth_range _ (by rw [hl]; exact hak)]) (by omega) hr (by omega) (by omega) (by omega) hn
  have hhas := fun {R O : Value} (w : World) => nhas_e (v := v) (c := c) (s := s) (r := r) (h := t * r) (cp := t * r + s) (A := A) (R := R) (O := O) w rfl hGn hp (by omega) hgr
  generalize nth (nth (ils rs) g0) ((p + T) % k) = dk at *
  generalize T * r + rkF (ils rs) g0 ((p + T) % k) = bb at *
  have hms : ∀ w, IMat w (.slice A rs.length c) rs → Calls Try.prog 35 #[layV v A c rs t s] w fun e w' => ∃ u M, e = .returned u ∧ H w M w' ∧ ∃ R cR rk O nO cO, ils rk = (List.range rs.length).map (rkL (ils rs)) ∧ u = .tuple #[.agg (numC v A c rs t s k r (.slice R rk.length cR) (.slice O nO cO) (t * r) (t * r + s)).toArray, .bool true] ∧ M = [vec R rk.length cR 32 1 (rk.map IRow.v), rowsI rk] := fun w hm => (measure_n w hy hm).mono fun e w' ⟨u, M, h1, h2, R, cR, O, cO, rk, on, h3, h4, h5, h6⟩ => ⟨u, [vec R rk.length cR 32 1 (rk.map IRow.v), rowsI rk], h1, (by subst h6; exact h2.sub (.cons_cons _ (.cons_cons _ (List.nil_sublist _)))), R, cR, rk, O, on.length, cO, h3, h5, rfl⟩
  refine calls_wcG (args := [layV v A c rs t s, iv G, iv p]) [.cell 6 54, .tmp 7] [] Try.func19 rfl Try.ntmps19 rfl rfl (H.refl _) ?_
  refine WC.seq fun K hK => ?_
  refine WC.region rfl ?_
  refine WL.want rfl (WL1.box rfl rfl (.mk (v := .agg _) rfl rfl) rfl (fun b3 => ?_))
  refine WL.want rfl (WL1.alloc rfl rfl rfl rfl (fun b6 => ?_))
  refine wG rfl rfl (g_assign rfl (.mk (v := .int _ _) rfl rfl)) ?_
  refine WL.nil ?_
  (refine hK _ _ ?_; clear hK)
  refine WC.seq fun K hK => ?_
  refine WC.region rfl ?_
  refine wG rfl rfl (g_loadA rfl (.mk rfl rfl) rfl rfl (rdr_pt (.tail _ (.head _)) (fun j u h => by simpa using h))) ?_
  (refine WL.want rfl (WL1.callN rfl rfl rfl (.cons (.mk (v := .agg _) rfl rfl) .nil) (fun w hw => hms w (hm.below hw.1)) ?_); rintro _ _ ⟨R, cR, rk, O, nO, cO, hrk, rfl, rfl⟩)
  refine wG rfl rfl (g_move rfl (.mk (v := .tuple _) rfl rfl)) ?_
  refine wG rfl rfl (g_extract rfl (.mk rfl rfl) rfl) ?_
  refine wG rfl rfl (g_extract rfl (.mk rfl rfl) rfl) ?_
  refine WL.want rfl (WL1.alloc rfl rfl rfl rfl (fun b8 => ?_))
  refine WL.want rfl (WL1.storeAll rfl rfl (.mk rfl rfl) (.mk rfl rfl) rfl (all1 rfl) (by first | rfl | (simp [Blk.len]; done)) (.head) ?_)
  refine wG rfl rfl (g_assign rfl (.mk (v := .bool _) rfl rfl)) ?_
  refine WL.nil ?_
  (refine hK _ _ ?_; clear hK)
  refine WC.seq fun K hK => ?_
  refine WC.block ?_
  refine WC.seq fun K hK => ?_
  refine WC.region rfl ?_
  refine wG rfl rfl (g_move rfl (.mk (v := .bool _) rfl rfl)) ?_
  refine wG rfl rfl (g_notT rfl (.mk rfl rfl)) ?_
  refine wG rfl rfl (g_assign rfl (.mk (v := .bool _) rfl rfl)) ?_
  refine WL.nil ?_
  (refine hK _ _ ?_; clear hK)
  refine WC.cond_false (.mk rfl rfl) ?_
  refine WC.seq fun K hK => ?_
  refine WC.region rfl ?_
  refine wG rfl rfl (g_loadA rfl (.mk rfl rfl) rfl rfl (rdr_pt (.head _) (fun j u h => by simpa using h))) ?_
  refine wG rfl rfl (g_move rfl (.mk (v := .int _ _) rfl rfl)) ?_
  refine wG rfl rfl (g_move rfl (.mk (v := .int _ _) rfl rfl)) ?_
  refine WL.want rfl (WL1.callP rfl rfl rfl (.cons (.mk (v := .agg _) rfl rfl) (.cons (.mk (v := .int _ _) rfl rfl) (.cons (.mk (v := .int _ _) rfl rfl) .nil))) (fun w hw => hhas w) ?_)
  refine wG rfl rfl (g_notT rfl (.mk rfl rfl)) ?_
  refine wG rfl rfl (g_assign rfl (.mk (v := .bool _) rfl rfl)) ?_
  refine WL.nil ?_
  (refine hK _ _ ?_; clear hK)
  refine WC.cond_false (.mk rfl rfl) ?_
  refine WC.skip ?_
  (refine hK _ _ ?_; clear hK)
  refine WC.seq fun K hK => ?_
  refine WC.region rfl ?_
  refine wG rfl rfl (g_loadA rfl (.mk rfl rfl) rfl rfl (rdr_pt (.head _) (fun j u h => by simpa using h))) ?_
  refine wG rfl rfl (g_move rfl (.mk (v := .int _ _) rfl rfl)) ?_
  refine wG rfl rfl (g_move rfl (.mk (v := .int _ _) rfl rfl)) ?_
  refine WL.want rfl (WL1.callP rfl rfl rfl (.cons (.mk (v := .agg _) rfl rfl) (.cons (.mk (v := .int _ _) rfl rfl) (.cons (.mk (v := .int _ _) rfl rfl) .nil))) (fun w hw => hho w R O cR nO cO rk (hm.below hw.1) (IMat.of_rows hw (by first | ((repeat (first | exact .head _ | apply List.Mem.tail)); done) | fail) (by first | ((repeat (first | exact .head _ | apply List.Mem.tail)); done) | fail) rfl) hrk) ?_)
  refine WL.want rfl (WL1.storeAll rfl rfl (.mk rfl rfl) (.mk rfl rfl) rfl (all1 rfl) (by first | rfl | (simp [Blk.len]; done)) (.tail (.tail (.tail (.head)))) ?_)
  refine wG rfl rfl (g_assign rfl (.mk (v := .int _ _) rfl rfl)) ?_
  refine WL.nil ?_
  (refine hK _ _ ?_; clear hK)
  refine WC.ret ?_
  exact ⟨_, .cell rfl rfl rfl rfl (by first | ((repeat (first | exact .head _ | apply List.Mem.tail)); done) | fail) (.tmp rfl rfl .nil), fun w' hw' => ⟨rfl, hw'.1⟩⟩
end
end Go.Proofs.Ytdcijljfgcjelaa
namespace Go.Proofs.Ytdcijljfgcjelaa
set_option maxRecDepth 20000
open Go.RowKit
attribute [local irreducible] Calls
def fxI (l : List Nat) (x : Nat) : Nat → Int
  | 0 => -1
  | d + 1 => if nth l (l.length - (d + 1)) = x then ((l.length - (d + 1) : Nat) : Int) else fxI l x d
theorem fxI_le (l : List Nat) (x : Nat) : ∀ d, d ≤ l.length → -1 ≤ fxI l x d ∧ fxI l x d ≤ l.length
  | 0, _ => by unfold fxI; omega
  | d + 1, h => by
    have := fxI_le l x d (by omega)
    unfold fxI
    split <;> omega
theorem fxI_cnt (l : List Nat) (x : Nat) : ∀ d, d ≤ l.length → (0 ≤ fxI l x d ↔ cntN (l.drop (l.length - d)) x ≠ 0)
  | 0, _ => by
    rw [Nat.sub_zero, List.drop_length]
    unfold fxI cntN
    omega
  | d + 1, h => by
    have ih := fxI_cnt l x d (by omega)
    have hlt : l.length - (d + 1) < l.length := by omega
    rw [List.drop_eq_getElem_cons hlt, show l.length - (d + 1) + 1 = l.length - d from by omega, ← nth_eq hlt]
    unfold fxI
    rw [cntN]
    by_cases e : nth l (l.length - (d + 1)) = x
    · rw [if_pos e, e]
      have : Nat.beq x x = true := Nat.beq_refl x
      rw [this]
      show _ ↔ 1 + _ ≠ 0
      omega
    · rw [if_neg e]
      have : Nat.beq (nth l (l.length - (d + 1))) x = false := by rw [Bool.eq_false_iff]; intro h'; exact e (Nat.eq_of_beq_eq_true h')
      rw [this]
      show _ ↔ 0 + _ ≠ 0
      rw [Nat.zero_add]
      exact ih
set_option maxHeartbeats 1000000 in
theorem cindex_e {w : World} {A : Option Addr} {c n : Nat} {l : List Nat} (x : Nat) (hn : l.length = n) (hn2 : n ≤ 1000) (hv : Sl w 1 (.slice A n c) n (ldv l)) : Calls Try.prog 61 #[.slice A n c, iv x] w fun e w' => e = .returned (iv (fxI l x n)) ∧ Below w.heap.size w w' := by
  subst hn
  refine calls_wc (args := [.slice A l.length c, iv x]) [4] [] Try.func61 rfl Try.ntmps61 rfl rfl rfl rfl (H.refl _) ?_
  refine WC.seq fun K hK => ?_
  refine WC.region rfl ?_
  refine wG rfl rfl (g_assign rfl (.mk (v := .int _ _) rfl rfl)) ?_
  refine WL.nil ?_
  (refine hK _ _ ?_; clear hK)
  refine WC.seq fun K hK => ?_
  refine WC.seq fun K hK => ?_
  refine WC.region rfl ?_
  refine wG rfl rfl (g_move rfl (.mk (v := .slice _ _ _) rfl rfl)) ?_
  refine wG rfl rfl (g_len rfl (.mk rfl rfl) rfl) ?_
  refine wG rfl rfl (g_move rfl (.mk (v := .int _ _) rfl rfl)) ?_
  refine WL.nil ?_
  (refine hK _ _ ?_; clear hK)
  refine WC.block ?_
  refine WC.loop (524080) (fun k : Nat => [(8, iv k)]) (fun _ => []) (fun k => k ≤ l.length ∧ fxI l x l.length = fxI l x (l.length - k)) (fun k => l.length - k) 0 ⟨rfl, trivial⟩ (.refl _) ⟨by omega, rfl⟩ ?_
  rintro k U ⟨hk, hq⟩
  by_cases hlt : k < l.length
  · have hg := ldv_get (ld := l) hlt
    have hst : fxI l x (l.length - k) = if nth l k = x then (k : Int) else fxI l x (l.length - (k + 1)) := by
      rw [show l.length - k = (l.length - (k + 1)) + 1 from by omega, fxI, show l.length - (l.length - (k + 1) + 1) = k from by omega]
    by_cases h0 : nth l k = x
    · rw [if_pos h0] at hst
      rw [h0] at hg
      rw [hq, hst]
      refine WC.seq fun K hK => ?_
      refine WC.region rfl ?_
      refine wG rfl rfl (g_lt rfl (.mk rfl rfl) (.mk rfl rfl) (decide_eq_true (by omega))) ?_
      refine WL.nil ?_
      (refine hK _ _ ?_; clear hK)
      refine WC.seq fun K hK => ?_
      refine WC.cond_true (.mk rfl rfl) ?_
      refine WC.skip ?_
      (refine hK _ _ ?_; clear hK)
      refine WC.seq fun K hK => ?_
      refine WC.block ?_
      refine WC.seq fun K hK => ?_
      refine WC.region rfl ?_
      refine wG rfl rfl (g_move rfl (.mk (v := .int _ _) rfl rfl)) ?_
      refine wG rfl rfl (g_assign rfl (.mk (v := .int _ _) rfl rfl)) ?_
      refine WL.nil ?_
      (refine hK _ _ ?_; clear hK)
      refine WC.seq fun K hK => ?_
      refine WC.region rfl ?_
      refine wG rfl rfl (g_move rfl (.mk (v := .int _ _) rfl rfl)) ?_
      refine wG rfl rfl (g_move rfl (.mk (v := .slice _ _ _) rfl rfl)) ?_
      refine wG rfl rfl (g_move rfl (.mk (v := .int _ _) rfl rfl)) ?_
      refine wG rfl rfl (g_indexAddr (sz := 1) rfl (.mk rfl rfl) (.mk rfl rfl) rfl rfl rfl (by omega) (fun _ _ => sl_some hv (by omega))) ?_
      refine wG rfl rfl (g_load rfl (.mk rfl rfl) rfl (rd_sl hv hg)) ?_
      refine wG rfl rfl (g_eq rfl (.mk rfl rfl) (.mk rfl rfl) (decide_eq_true (by omega))) ?_
      refine WL.nil ?_
      (refine hK _ _ ?_; clear hK)
      refine WC.cond_true (.mk rfl rfl) ?_
      refine WC.seq fun K hK => ?_
      refine WC.region rfl ?_
      refine wG rfl rfl (g_move rfl (.mk (v := .int _ _) rfl rfl)) ?_
      refine wG rfl rfl (g_assign rfl (.mk (v := .int _ _) rfl rfl)) ?_
      refine WL.nil ?_
      (refine hK _ _ ?_; clear hK)
      refine WC.ret ?_
      exact fun w' hw' => ⟨rfl, hw'.1⟩
    · rw [if_neg h0] at hst
      generalize nth l k = z at *
      refine WC.seq fun K hK => ?_
      refine WC.region rfl ?_
      refine wG rfl rfl (g_lt rfl (.mk rfl rfl) (.mk rfl rfl) (decide_eq_true (by omega))) ?_
      refine WL.nil ?_
      (refine hK _ _ ?_; clear hK)
      refine WC.seq fun K hK => ?_
      refine WC.cond_true (.mk rfl rfl) ?_
      refine WC.skip ?_
      (refine hK _ _ ?_; clear hK)
      refine WC.seq fun K hK => ?_
      refine WC.block ?_
      refine WC.seq fun K hK => ?_
      refine WC.region rfl ?_
      refine wG rfl rfl (g_move rfl (.mk (v := .int _ _) rfl rfl)) ?_
      refine wG rfl rfl (g_assign rfl (.mk (v := .int _ _) rfl rfl)) ?_
      refine WL.nil ?_
      (refine hK _ _ ?_; clear hK)
      refine WC.seq fun K hK => ?_
      refine WC.region rfl ?_
      refine wG rfl rfl (g_move rfl (.mk (v := .int _ _) rfl rfl)) ?_
      refine wG rfl rfl (g_move rfl (.mk (v := .slice _ _ _) rfl rfl)) ?_
      refine wG rfl rfl (g_move rfl (.mk (v := .int _ _) rfl rfl)) ?_
      refine wG rfl rfl (g_indexAddr (sz := 1) rfl (.mk rfl rfl) (.mk rfl rfl) rfl rfl rfl (by omega) (fun _ _ => sl_some hv (by omega))) ?_
      refine wG rfl rfl (g_load rfl (.mk rfl rfl) rfl (rd_sl hv hg)) ?_
      refine wG rfl rfl (g_eq rfl (.mk rfl rfl) (.mk rfl rfl) (decide_eq_false (by omega))) ?_
      refine WL.nil ?_
      (refine hK _ _ ?_; clear hK)
      refine WC.cond_false (.mk rfl rfl) ?_
      refine WC.skip ?_
      (refine hK _ _ ?_; clear hK)
      refine WC.region rfl ?_
      refine wG rfl rfl (g_add rfl (.mk rfl rfl) (.mk rfl rfl) (IntWalk.i64_in _ (by omega))) ?_
      refine wG rfl rfl (g_move rfl (.mk (v := .int _ _) rfl rfl)) ?_
      refine WL.nil ?_
      exact ⟨k + 1, (by repeat (first | with_reducible exact Out.refl _ _ | refine Out.set rfl ?_ | refine Out.put rfl ?_ | refine Out.sets rfl ?_ | refine Out.hav rfl ?_ | exact Out.refl _ _)), ⟨rfl, trivial⟩, .refl _, ⟨by omega, hq.trans hst⟩, by omega⟩
  · obtain rfl : k = l.length := by omega
    rw [Nat.sub_self] at hq
    refine WC.seq fun K hK => ?_
    refine WC.region rfl ?_
    refine wG rfl rfl (g_lt rfl (.mk rfl rfl) (.mk rfl rfl) (decide_eq_false (by omega))) ?_
    refine WL.nil ?_
    (refine hK _ _ ?_; clear hK)
    refine WC.seq fun K hK => ?_
    refine WC.cond_false (.mk rfl rfl) ?_
    refine WC.exit ?_
    (clear hK; refine hK _ _ ?_; clear hK)
    refine WC.seq fun K hK => ?_
    refine WC.region rfl ?_
    refine wG rfl rfl (g_assign rfl (.mk (v := .int _ _) rfl rfl)) ?_
    refine WL.nil ?_
    (refine hK _ _ ?_; clear hK)
    refine WC.ret ?_
    exact fun w' hw' => ⟨by rw [hq]; rfl, hw'.1⟩
theorem contains_e {w : World} {A : Option Addr} {c n : Nat} {l : List Nat} (x : Nat) (hn : l.length = n) (hn2 : n ≤ 1000) (hv : Sl w 1 (.slice A n c) n (ldv l)) : Calls Try.prog 39 #[.slice A n c, iv x] w fun e w' => e = .returned (.bool (decide (cntN l x ≠ 0))) ∧ Below w.heap.size w w' := by
  have hix := fun w' (hb : Below w.heap.size w w') => cindex_e x hn hn2 (hv.below hb)
  have hle := fxI_le l x n (by omega)
  have hct := fxI_cnt l x n (by omega)
  rw [hn, Nat.sub_self, List.drop_zero] at hct
  generalize fxI l x n = z at *
  by_cases h : cntN l x ≠ 0
  · rw [decide_eq_true h]
    have hz := hct.2 h
    clear hct h
    refine calls_wc (args := [.slice A n c, iv x]) [4] [] Try.func39 rfl Try.ntmps39 rfl rfl rfl rfl (H.refl _) ?_
    refine WC.seq fun K hK => ?_
    refine WC.region rfl ?_
    refine wG rfl rfl (g_assign rfl (.mk (v := .bool _) rfl rfl)) ?_
    refine WL.nil ?_
    (refine hK _ _ ?_; clear hK)
    refine WC.seq fun K hK => ?_
    refine WC.region rfl ?_
    refine wG rfl rfl (g_move rfl (.mk (v := .slice _ _ _) rfl rfl)) ?_
    refine wG rfl rfl (g_move rfl (.mk (v := .int _ _) rfl rfl)) ?_
    refine WL.want rfl (WL1.callP rfl rfl rfl (.cons (.mk (v := .slice _ _ _) rfl rfl) (.cons (.mk (v := .int _ _) rfl rfl) .nil)) (fun w hw => hix w hw.1) ?_)
    refine wG rfl rfl (g_ge rfl (.mk rfl rfl) (.mk rfl rfl) (decide_eq_true (by omega))) ?_
    refine wG rfl rfl (g_assign rfl (.mk (v := .bool _) rfl rfl)) ?_
    refine WL.nil ?_
    (refine hK _ _ ?_; clear hK)
    refine WC.ret ?_
    exact fun w' hw' => ⟨rfl, hw'.1⟩
  · rw [decide_eq_false h]
    have hz : ¬ 0 ≤ z := fun h' => h (hct.1 h')
    clear hct h
    refine calls_wc (args := [.slice A n c, iv x]) [4] [] Try.func39 rfl Try.ntmps39 rfl rfl rfl rfl (H.refl _) ?_
    refine WC.seq fun K hK => ?_
    refine WC.region rfl ?_
    refine wG rfl rfl (g_assign rfl (.mk (v := .bool _) rfl rfl)) ?_
    refine WL.nil ?_
    (refine hK _ _ ?_; clear hK)
    refine WC.seq fun K hK => ?_
    refine WC.region rfl ?_
    refine wG rfl rfl (g_move rfl (.mk (v := .slice _ _ _) rfl rfl)) ?_
    refine wG rfl rfl (g_move rfl (.mk (v := .int _ _) rfl rfl)) ?_
    refine WL.want rfl (WL1.callP rfl rfl rfl (.cons (.mk (v := .slice _ _ _) rfl rfl) (.cons (.mk (v := .int _ _) rfl rfl) .nil)) (fun w hw => hix w hw.1) ?_)
    refine wG rfl rfl (g_ge rfl (.mk rfl rfl) (.mk rfl rfl) (decide_eq_false (by omega))) ?_
    refine wG rfl rfl (g_assign rfl (.mk (v := .bool _) rfl rfl)) ?_
    refine WL.nil ?_
    (refine hK _ _ ?_; clear hK)
    refine WC.ret ?_
    exact fun w' hw' => ⟨rfl, hw'.1⟩
theorem cn3_app (P Q : List (List Nat)) (a b : Nat) : cn3 (P ++ Q) a b = cn3 P a b + cn3 Q a b := by
  induction P with
  | nil => simp [cn3]
  | cons p P ih => rw [List.cons_append, cn3, cn3, ih]; omega
theorem cn3_snoc {gs : List (List Nat)} {i : Nat} (hi : i < gs.length) (a b : Nat) : cn3 (gs.take (i + 1)) a b = cn3 (gs.take i) a b + cntN (nth gs i) a * cntN (nth gs i) b := by
  rw [take_snoc hi, cn3_app]; rfl
set_option maxHeartbeats 2000000 in
theorem shared_e {v a b : Nat} {A : Option Addr} {c k : Nat} {rs : List IRow} (w : World) (hm : IMat w (.slice A rs.length c) rs) (ha : a < v) (hb : b < v) (hv : v ≤ 60) (hk : k ≤ 60) (hl : ∀ i, i < rs.length → (nth (ils rs) i).length = k) (hn : rs.length ≤ 4096)
    (hnod : ∀ i, i < rs.length → ∀ x, x < v → cntN (nth (ils rs) i) x ≤ 1) :
    Calls Try.prog 20 #[dsgV v A c rs, iv a, iv b] w fun e w' => e = .returned (iv (cn3 (ils rs) a b : Nat)) ∧ Below w.heap.size w w' := by
  have hs := hm.1
  have hil : (ils rs).length = rs.length := List.length_map _
  refine calls_wc (args := [dsgV v A c rs, iv a, iv b]) [6] [] Try.func20 rfl Try.ntmps20 rfl rfl rfl rfl (H.refl _) ?_
  refine WC.seq fun K hK => ?_
  refine WC.region rfl ?_
  refine WL.want rfl (WL1.box rfl rfl (.mk (v := .agg _) rfl rfl) rfl (fun b3 => ?_))
  refine wG rfl rfl (g_assign rfl (.mk (v := .int _ _) rfl rfl)) ?_
  refine WL.nil ?_
  (refine hK _ _ ?_; clear hK)
  refine WC.seq fun K hK => ?_
  refine WC.region rfl ?_
  refine wG rfl rfl (g_assign rfl (.mk (v := .int _ _) rfl rfl)) ?_
  refine WL.nil ?_
  (refine hK _ _ ?_; clear hK)
  refine WC.seq fun K hK => ?_
  refine WC.seq fun K hK => ?_
  refine WC.region rfl ?_
  refine wG rfl rfl (g_move rfl (.mk (v := .int _ _) rfl rfl)) ?_
  refine wG rfl rfl (g_move rfl (.mk (v := .int _ _) rfl rfl)) ?_
  refine wG rfl rfl (g_min rfl (.mk rfl rfl) (.mk rfl rfl) rfl) ?_
  refine wG rfl rfl (g_lt rfl (.mk rfl rfl) (.mk rfl rfl) (decide_eq_false (by omega))) ?_
  refine wG rfl rfl (g_move rfl (.mk (v := .bool _) rfl rfl)) ?_
  refine WL.wantG rfl rfl rfl rfl (WL1.give rfl (g_move rfl (.mk (v := .int _ _) rfl rfl)) ?_)
  refine WL.wantG rfl rfl rfl rfl (WL1.give rfl (g_move rfl (.mk (v := .int _ _) rfl rfl)) ?_)
  refine WL.wantG rfl rfl rfl rfl (WL1.give rfl (g_max rfl (.mk rfl rfl) (.mk rfl rfl) rfl) ?_)
  refine WL.wantG rfl rfl rfl rfl (WL1.give rfl (g_fieldAddr (off := 0) rfl (.mk rfl rfl) rfl (fun _ _ => rfl)) ?_)
  refine WL.wantG rfl rfl rfl rfl (WL1.give rfl (g_load rfl (.mk rfl rfl) rfl (rd_pt (.head _) rfl)) ?_)
  refine WL.wantG rfl rfl rfl rfl (WL1.give rfl (g_ge rfl (.mk rfl rfl) (.mk rfl rfl) (decide_eq_false (by omega))) ?_)
  refine wG rfl rfl (g_pickF rfl (.mk rfl rfl) (.mk (v := .bool _) rfl rfl)) ?_
  refine WL.nil ?_
  (refine hK _ _ ?_; clear hK)
  refine WC.cond_false (.mk rfl rfl) ?_
  refine WC.skip ?_
  (refine hK _ _ ?_; clear hK)
  refine WC.seq fun K hK => ?_
  refine WC.seq fun K hK => ?_
  refine WC.region rfl ?_
  refine wG rfl rfl (g_fieldAddr (off := 1) rfl (.mk rfl rfl) rfl (fun _ _ => rfl)) ?_
  refine wG rfl rfl (g_load rfl (.mk rfl rfl) rfl (rd_pt (.head _) rfl)) ?_
  refine wG rfl rfl (g_len rfl (.mk rfl rfl) rfl) ?_
  refine wG rfl rfl (g_move rfl (.mk (v := .int _ _) rfl rfl)) ?_
  refine WL.nil ?_
  (refine hK _ _ ?_; clear hK)
  refine WC.block ?_
  refine WC.loop (1099478073984) (fun i : Nat => [(25, iv i), (7, iv (cn3 ((ils rs).take i) a b : Nat))]) (fun _ => []) (fun i => i ≤ rs.length ∧ cn3 ((ils rs).take i) a b ≤ i) (fun i => rs.length - i) 0 ⟨rfl, rfl, trivial⟩ (by repeat (first | exact List.nil_sublist _ | exact List.Sublist.refl _ | apply List.Sublist.cons_cons | apply List.Sublist.cons)) ⟨by omega, Nat.le_refl _⟩ ?_
  rintro i U ⟨hi, hci⟩
  by_cases hlt : i < rs.length
  · obtain ⟨A1, c1, e1, s1⟩ := irow_at hm hlt
    have i1 : (rs.map IRow.v)[i * 1]? = some (.slice A1 k c1) := by rw [irowv_get hlt, e1, ← hl i hlt]; rfl
    rw [hl i hlt] at s1
    have h1 := hnod i hlt a ha
    have h2 := hnod i hlt b hb
    have hst := cn3_snoc (gs := ils rs) (i := i) (by omega) a b
    have hca := fun w' (hb : Below w.heap.size w w') => contains_e a (hl i hlt) (by omega) (s1.below hb)
    have hcb := fun w' (hb : Below w.heap.size w w') => contains_e b (hl i hlt) (by omega) (s1.below hb)
    generalize cntN (nth (ils rs) i) a = xa at *
    generalize cntN (nth (ils rs) i) b = xb at *
    generalize cn3 ((ils rs).take i) a b = z at *
    obtain rfl | rfl : xa = 0 ∨ xa = 1 := by omega
    · rw [decide_eq_false (by omega)] at hca
      rw [Nat.zero_mul, Nat.add_zero] at hst
      refine WC.seq fun K hK => ?_
      refine WC.region rfl ?_
      refine wG rfl rfl (g_lt rfl (.mk rfl rfl) (.mk rfl rfl) (decide_eq_true (by omega))) ?_
      refine WL.nil ?_
      (refine hK _ _ ?_; clear hK)
      refine WC.seq fun K hK => ?_
      refine WC.cond_true (.mk rfl rfl) ?_
      refine WC.skip ?_
      (refine hK _ _ ?_; clear hK)
      refine WC.seq fun K hK => ?_
      refine WC.block ?_
      refine WC.seq fun K hK => ?_
      refine WC.region rfl ?_
      refine wG rfl rfl (g_indexAddr (sz := 1) rfl (.mk rfl rfl) (.mk rfl rfl) rfl rfl rfl (by omega) (fun _ _ => sl_some hs (by omega))) ?_
      refine wG rfl rfl (g_load rfl (.mk rfl rfl) rfl (rd_sl hs i1)) ?_
      refine wG rfl rfl (g_assign rfl (.mk (v := .slice _ _ _) rfl rfl)) ?_
      refine WL.nil ?_
      (refine hK _ _ ?_; clear hK)
      refine WC.seq fun K hK => ?_
      refine WC.region rfl ?_
      refine wG rfl rfl (g_move rfl (.mk (v := .slice _ _ _) rfl rfl)) ?_
      refine wG rfl rfl (g_move rfl (.mk (v := .int _ _) rfl rfl)) ?_
      refine WL.want rfl (WL1.callP rfl rfl rfl (.cons (.mk (v := .slice _ _ _) rfl rfl) (.cons (.mk (v := .int _ _) rfl rfl) .nil)) (fun w hw => hca w hw.1) ?_)
      refine wG rfl rfl (g_move rfl (.mk (v := .bool _) rfl rfl)) ?_
      refine WL.skipG rfl rfl rfl rfl rfl rfl ?_
      refine WL.skipG rfl rfl rfl rfl rfl rfl ?_
      refine WL.skipG rfl rfl rfl rfl rfl rfl ?_
      refine wG rfl rfl (g_pickF rfl (.mk rfl rfl) (.mk (v := .bool _) rfl rfl)) ?_
      refine WL.nil ?_
      (refine hK _ _ ?_; clear hK)
      refine WC.cond_false (.mk rfl rfl) ?_
      refine WC.skip ?_
      (refine hK _ _ ?_; clear hK)
      refine WC.region rfl ?_
      refine wG rfl rfl (g_add rfl (.mk rfl rfl) (.mk rfl rfl) (IntWalk.i64_in _ (by omega))) ?_
      refine wG rfl rfl (g_move rfl (.mk (v := .int _ _) rfl rfl)) ?_
      refine WL.nil ?_
      exact ⟨i + 1, (by repeat (first | with_reducible exact Out.refl _ _ | refine Out.set rfl ?_ | refine Out.put rfl ?_ | refine Out.sets rfl ?_ | refine Out.hav rfl ?_ | exact Out.refl _ _)), ⟨rfl, by show iv _ = iv _; rw [hst]; rfl, trivial⟩, .refl _, ⟨by omega, by omega⟩, by omega⟩
    · rw [decide_eq_true (by omega)] at hca
      obtain rfl | rfl : xb = 0 ∨ xb = 1 := by omega
      · rw [decide_eq_false (by omega)] at hcb
        rw [Nat.mul_zero, Nat.add_zero] at hst
        refine WC.seq fun K hK => ?_
        refine WC.region rfl ?_
        refine wG rfl rfl (g_lt rfl (.mk rfl rfl) (.mk rfl rfl) (decide_eq_true (by omega))) ?_
        refine WL.nil ?_
        (refine hK _ _ ?_; clear hK)
        refine WC.seq fun K hK => ?_
        refine WC.cond_true (.mk rfl rfl) ?_
        refine WC.skip ?_
        (refine hK _ _ ?_; clear hK)
        refine WC.seq fun K hK => ?_
        refine WC.block ?_
        refine WC.seq fun K hK => ?_
        refine WC.region rfl ?_
        refine wG rfl rfl (g_indexAddr (sz := 1) rfl (.mk rfl rfl) (.mk rfl rfl) rfl rfl rfl (by omega) (fun _ _ => sl_some hs (by omega))) ?_
        refine wG rfl rfl (g_load rfl (.mk rfl rfl) rfl (rd_sl hs i1)) ?_
        refine wG rfl rfl (g_assign rfl (.mk (v := .slice _ _ _) rfl rfl)) ?_
        refine WL.nil ?_
        (refine hK _ _ ?_; clear hK)
        refine WC.seq fun K hK => ?_
        refine WC.region rfl ?_
        refine wG rfl rfl (g_move rfl (.mk (v := .slice _ _ _) rfl rfl)) ?_
        refine wG rfl rfl (g_move rfl (.mk (v := .int _ _) rfl rfl)) ?_
        refine WL.want rfl (WL1.callP rfl rfl rfl (.cons (.mk (v := .slice _ _ _) rfl rfl) (.cons (.mk (v := .int _ _) rfl rfl) .nil)) (fun w hw => hca w hw.1) ?_)
        refine wG rfl rfl (g_move rfl (.mk (v := .bool _) rfl rfl)) ?_
        refine WL.wantG rfl rfl rfl rfl (WL1.give rfl (g_move rfl (.mk (v := .slice _ _ _) rfl rfl)) ?_)
        refine WL.wantG rfl rfl rfl rfl (WL1.give rfl (g_move rfl (.mk (v := .int _ _) rfl rfl)) ?_)
        refine WL.wantG rfl rfl rfl rfl (WL1.callP rfl rfl rfl (.cons (.mk (v := .slice _ _ _) rfl rfl) (.cons (.mk (v := .int _ _) rfl rfl) .nil)) (fun w hw => hcb w hw.1) ?_)
        refine wG rfl rfl (g_pickT rfl (.mk rfl rfl) (.mk (v := .bool _) rfl rfl)) ?_
        refine WL.nil ?_
        (refine hK _ _ ?_; clear hK)
        refine WC.cond_false (.mk rfl rfl) ?_
        refine WC.skip ?_
        (refine hK _ _ ?_; clear hK)
        refine WC.region rfl ?_
        refine wG rfl rfl (g_add rfl (.mk rfl rfl) (.mk rfl rfl) (IntWalk.i64_in _ (by omega))) ?_
        refine wG rfl rfl (g_move rfl (.mk (v := .int _ _) rfl rfl)) ?_
        refine WL.nil ?_
        exact ⟨i + 1, (by repeat (first | with_reducible exact Out.refl _ _ | refine Out.set rfl ?_ | refine Out.put rfl ?_ | refine Out.sets rfl ?_ | refine Out.hav rfl ?_ | exact Out.refl _ _)), ⟨rfl, by show iv _ = iv _; rw [hst]; rfl, trivial⟩, .refl _, ⟨by omega, by omega⟩, by omega⟩
      · rw [decide_eq_true (by omega)] at hcb
        refine WC.seq fun K hK => ?_
        refine WC.region rfl ?_
        refine wG rfl rfl (g_lt rfl (.mk rfl rfl) (.mk rfl rfl) (decide_eq_true (by omega))) ?_
        refine WL.nil ?_
        (refine hK _ _ ?_; clear hK)
        refine WC.seq fun K hK => ?_
        refine WC.cond_true (.mk rfl rfl) ?_
        refine WC.skip ?_
        (refine hK _ _ ?_; clear hK)
        refine WC.seq fun K hK => ?_
        refine WC.block ?_
        refine WC.seq fun K hK => ?_
        refine WC.region rfl ?_
        refine wG rfl rfl (g_indexAddr (sz := 1) rfl (.mk rfl rfl) (.mk rfl rfl) rfl rfl rfl (by omega) (fun _ _ => sl_some hs (by omega))) ?_
        refine wG rfl rfl (g_load rfl (.mk rfl rfl) rfl (rd_sl hs i1)) ?_
        refine wG rfl rfl (g_assign rfl (.mk (v := .slice _ _ _) rfl rfl)) ?_
        refine WL.nil ?_
        (refine hK _ _ ?_; clear hK)
        refine WC.seq fun K hK => ?_
        refine WC.region rfl ?_
        refine wG rfl rfl (g_move rfl (.mk (v := .slice _ _ _) rfl rfl)) ?_
        refine wG rfl rfl (g_move rfl (.mk (v := .int _ _) rfl rfl)) ?_
        refine WL.want rfl (WL1.callP rfl rfl rfl (.cons (.mk (v := .slice _ _ _) rfl rfl) (.cons (.mk (v := .int _ _) rfl rfl) .nil)) (fun w hw => hca w hw.1) ?_)
        refine wG rfl rfl (g_move rfl (.mk (v := .bool _) rfl rfl)) ?_
        refine WL.wantG rfl rfl rfl rfl (WL1.give rfl (g_move rfl (.mk (v := .slice _ _ _) rfl rfl)) ?_)
        refine WL.wantG rfl rfl rfl rfl (WL1.give rfl (g_move rfl (.mk (v := .int _ _) rfl rfl)) ?_)
        refine WL.wantG rfl rfl rfl rfl (WL1.callP rfl rfl rfl (.cons (.mk (v := .slice _ _ _) rfl rfl) (.cons (.mk (v := .int _ _) rfl rfl) .nil)) (fun w hw => hcb w hw.1) ?_)
        refine wG rfl rfl (g_pickT rfl (.mk rfl rfl) (.mk (v := .bool _) rfl rfl)) ?_
        refine WL.nil ?_
        (refine hK _ _ ?_; clear hK)
        refine WC.cond_true (.mk rfl rfl) ?_
        refine WC.region rfl ?_
        refine wG rfl rfl (g_move rfl (.mk (v := .int _ _) rfl rfl)) ?_
        refine wG rfl rfl (g_add rfl (.mk rfl rfl) (.mk rfl rfl) (IntWalk.i64_in _ (by omega))) ?_
        refine wG rfl rfl (g_assign rfl (.mk (v := .int _ _) rfl rfl)) ?_
        refine WL.nil ?_
        (refine hK _ _ ?_; clear hK)
        refine WC.region rfl ?_
        refine wG rfl rfl (g_add rfl (.mk rfl rfl) (.mk rfl rfl) (IntWalk.i64_in _ (by omega))) ?_
        refine wG rfl rfl (g_move rfl (.mk (v := .int _ _) rfl rfl)) ?_
        refine WL.nil ?_
        exact ⟨i + 1, (by repeat (first | with_reducible exact Out.refl _ _ | refine Out.set rfl ?_ | refine Out.put rfl ?_ | refine Out.sets rfl ?_ | refine Out.hav rfl ?_ | exact Out.refl _ _)), ⟨rfl, by show iv _ = iv _; rw [hst]; congr 1, trivial⟩, .refl _, ⟨by omega, by omega⟩, by omega⟩
  · obtain rfl : i = rs.length := by omega
    have ht : (ils rs).take rs.length = ils rs := List.take_of_length_le (by omega)
    rw [ht]
    refine WC.seq fun K hK => ?_
    refine WC.region rfl ?_
    refine wG rfl rfl (g_lt rfl (.mk rfl rfl) (.mk rfl rfl) (decide_eq_false (by omega))) ?_
    refine WL.nil ?_
    (refine hK _ _ ?_; clear hK)
    refine WC.seq fun K hK => ?_
    refine WC.cond_false (.mk rfl rfl) ?_
    refine WC.exit ?_
    (clear hK; refine hK _ _ ?_; clear hK)
    refine WC.seq fun K hK => ?_
    refine WC.region rfl ?_
    refine wG rfl rfl (g_move rfl (.mk (v := .int _ _) rfl rfl)) ?_
    refine wG rfl rfl (g_assign rfl (.mk (v := .int _ _) rfl rfl)) ?_
    refine WL.nil ?_
    (refine hK _ _ ?_; clear hK)
    refine WC.ret ?_
    exact fun w' hw' => ⟨rfl, hw'.1⟩
end Go.Proofs.Ytdcijljfgcjelaa
namespace Go.Proofs.Ytdcijljfgcjelaa
set_option maxRecDepth 20000
open Go.RowKit
attribute [local irreducible] Calls
def cn1 : List (List Nat) → Nat → Nat
  | [], _ => 0
  | g :: gs, a => cntN g a + cn1 gs a
theorem cn1_app (P Q : List (List Nat)) (a : Nat) : cn1 (P ++ Q) a = cn1 P a + cn1 Q a := by
  induction P with
  | nil => simp [cn1]
  | cons p P ih => rw [List.cons_append, cn1, cn1, ih]; omega
theorem cn1_snoc {gs : List (List Nat)} {i : Nat} (hi : i < gs.length) (a : Nat) : cn1 (gs.take (i + 1)) a = cn1 (gs.take i) a + cntN (nth gs i) a := by
  rw [take_snoc hi, cn1_app]; rfl
theorem cn1_take (gs : List (List Nat)) (i a : Nat) : cn1 (gs.take i) a ≤ cn1 gs a := by
  have h := cn1_app (gs.take i) (gs.drop i) a
  rw [List.take_append_drop] at h
  omega
theorem cn1_diag {gs : List (List Nat)} {a : Nat} (h : ∀ g ∈ gs, cntN g a ≤ 1) : cn3 gs a a = cn1 gs a := by
  induction gs with
  | nil => rfl
  | cons g gs ih =>
    have h1 := h g (by simp)
    rw [cn3, cn1, ih fun g hg => h g (by simp [hg])]
    obtain e | e : cntN g a = 0 ∨ cntN g a = 1 := by omega
    · rw [e]
    · rw [e]
theorem cntN_app (l m : List Nat) (a : Nat) : cntN (l ++ m) a = cntN l a + cntN m a := by
  induction l with
  | nil => simp [cntN]
  | cons x l ih => rw [List.cons_append, cntN, cntN, ih]; omega
theorem cntN_one (x a : Nat) : cntN [x] a = if x = a then 1 else 0 := by
  unfold cntN
  by_cases e : x = a
  · subst e; rw [if_pos rfl, Nat.beq_refl]; rfl
  · have : Nat.beq x a = false := by rw [Bool.eq_false_iff]; intro h'; exact e (Nat.eq_of_beq_eq_true h')
    rw [if_neg e, this]; rfl
theorem cntN_before {l : List Nat} {p : Nat} (hp : p < l.length) (h : cntN l (nth l p) ≤ 1) : cntN (l.take p) (nth l p) = 0 := by
  have h1 : l.take (p + 1) = l.take p ++ [nth l p] := take_snoc hp
  have h2 := cntN_app (l.take (p + 1)) (l.drop (p + 1)) (nth l p)
  rw [List.take_append_drop, h1, cntN_app, cntN_one, if_pos rfl] at h2
  omega
theorem onP_map (l : List Nat) (g d : Nat) : (onP (l.map fun d => (g, d)) d).length = cntN l d := by
  induction l with
  | nil => rfl
  | cons x l ih =>
    rw [List.map_cons, onP, cntN]
    cases Nat.beq x d
    · show (onP _ d).length = 0 + _; rw [ih, Nat.zero_add]
    · show (onP _ d).length + 1 = 1 + _; rw [ih]; omega
theorem onP_gd (gs : List (List Nat)) (d : Nat) : ∀ g, g ≤ gs.length → (onP (gdP gs g) d).length = cn1 (gs.take g) d
  | 0, _ => rfl
  | g + 1, h => by rw [gdP, onP_app, List.length_append, onP_gd gs d g (by omega), onP_map, cn1_snoc (by omega)]
theorem rkF_eq {gs : List (List Nat)} {g i : Nat} (hg : g < gs.length) (hi : i < (nth gs g).length) (h : cntN (nth gs g) (nth (nth gs g) i) ≤ 1) : rkF gs g i = cn1 (gs.take g) (nth (nth gs g) i) := by
  unfold rkF
  rw [onP_app, List.length_append, onP_gd gs _ g (by omega), onP_map, cntN_before hi h, Nat.add_zero]
structure WBal (v k r lam : Nat) (gs : List (List Nat)) : Prop where
  y : ∀ t, 1 ≤ t → t ≤ 3 → Lay v k r lam gs t 2
  k6 : k ≤ 6
  nod : ∀ g ∈ gs, ∀ x, x < v → cntN g x ≤ 1
def rowR (gs : List (List Nat)) (k g : Nat) : List Nat := (List.range k).map fun p => nth (nth gs (g % gs.length)) ((p + g / gs.length) % k)
theorem rowR_len (gs : List (List Nat)) (k g : Nat) : (rowR gs k g).length = k := by simp [rowR]
theorem rowR_at {gs : List (List Nat)} {k g p : Nat} (hp : p < k) : nth (rowR gs k g) p = nth (nth gs (g % gs.length)) ((p + g / gs.length) % k) := nth_range _ hp
theorem rot_cnt {l : List Nat} {k t : Nat} (hl : l.length = k) (h4 : 4 ≤ k) (h6 : k ≤ 6) (ht : t < 3) (x : Nat) : cntN ((List.range k).map fun p => nth l ((p + t) % k)) x = cntN l x := by
  obtain rfl | rfl | rfl : k = 4 ∨ k = 5 ∨ k = 6 := by omega
  · match l, hl with
    | [a, b, c, d], _ =>
      obtain rfl | rfl | rfl : t = 0 ∨ t = 1 ∨ t = 2 := by omega
      · rw [show ((List.range 4).map fun p => nth [a, b, c, d] ((p + 0) % 4)) = [a, b, c, d] from rfl]
      · rw [show ((List.range 4).map fun p => nth [a, b, c, d] ((p + 1) % 4)) = [b, c, d, a] from rfl]
        simp only [cntN]; omega
      · rw [show ((List.range 4).map fun p => nth [a, b, c, d] ((p + 2) % 4)) = [c, d, a, b] from rfl]
        simp only [cntN]; omega
  · match l, hl with
    | [a, b, c, d, e], _ =>
      obtain rfl | rfl | rfl : t = 0 ∨ t = 1 ∨ t = 2 := by omega
      · rw [show ((List.range 5).map fun p => nth [a, b, c, d, e] ((p + 0) % 5)) = [a, b, c, d, e] from rfl]
      · rw [show ((List.range 5).map fun p => nth [a, b, c, d, e] ((p + 1) % 5)) = [b, c, d, e, a] from rfl]
        simp only [cntN]; omega
      · rw [show ((List.range 5).map fun p => nth [a, b, c, d, e] ((p + 2) % 5)) = [c, d, e, a, b] from rfl]
        simp only [cntN]; omega
  · match l, hl with
    | [a, b, c, d, e, f], _ =>
      obtain rfl | rfl | rfl : t = 0 ∨ t = 1 ∨ t = 2 := by omega
      · rw [show ((List.range 6).map fun p => nth [a, b, c, d, e, f] ((p + 0) % 6)) = [a, b, c, d, e, f] from rfl]
      · rw [show ((List.range 6).map fun p => nth [a, b, c, d, e, f] ((p + 1) % 6)) = [b, c, d, e, f, a] from rfl]
        simp only [cntN]; omega
      · rw [show ((List.range 6).map fun p => nth [a, b, c, d, e, f] ((p + 2) % 6)) = [c, d, e, f, a, b] from rfl]
        simp only [cntN]; omega
def prN (l : List Nat) : Nat → List (Nat × Nat)
  | 0 => []
  | m + 1 => prN l m ++ (l.take m).flatMap fun d => [(d, nth l m), (nth l m, d)]
theorem prN_len (l : List Nat) {k : Nat} : ∀ m, m ≤ k → (prN l m).length ≤ m * (2 * k)
  | 0, _ => by show 0 ≤ _; omega
  | m + 1, h => by
    have ih := prN_len l (k := k) m (by omega)
    have h2 : ((l.take m).flatMap fun d => [(d, nth l m), (nth l m, d)]).length ≤ 2 * k := by
      rw [List.length_flatMap]
      have h3 : ∀ q : List Nat, (q.map fun d => ([(d, nth l m), (nth l m, d)] : List (Nat × Nat)).length).sum = 2 * q.length := fun q => by
        induction q with
        | nil => rfl
        | cons x q ih => rw [List.map_cons, List.sum_cons, ih]; show 2 + 2 * q.length = 2 * (q.length + 1); omega
      rw [h3, List.length_take]
      omega
    rw [prN, List.length_append, Nat.succ_mul]
    omega
theorem cnS_fl (q : List Nat) (x a b : Nat) (hab : a ≠ b) : cnS (q.flatMap fun d => [(d, x), (x, d)]) a b = (if x = b then cntN q a else 0) + (if x = a then cntN q b else 0) := by
  induction q with
  | nil => simp [cnS, cntN]
  | cons d q ih =>
    rw [List.flatMap_cons, cnS_app, ih]
    show (_ + (_ + 0)) + _ = _
    rw [cntN, cntN]
    have e : ∀ u w : Nat, (cond (Nat.beq u w) 1 0 : Nat) = if u = w then 1 else 0 := fun u w => by
      by_cases e : u = w
      · subst e; rw [Nat.beq_refl, if_pos rfl]; rfl
      · have : Nat.beq u w = false := by rw [Bool.eq_false_iff]; intro h'; exact e (Nat.eq_of_beq_eq_true h')
        rw [this, if_neg e]; rfl
    rw [e, e]
    have key : ∀ (p1 p2 p3 p4 : Prop) [Decidable p1] [Decidable p2] [Decidable p3] [Decidable p4] (m n : Nat), ((if p3 ∧ p1 then 1 else 0) + ((if p2 ∧ p4 then 1 else 0) + 0)) + ((if p1 then m else 0) + (if p2 then n else 0)) = (if p1 then (if p3 then 1 else 0) + m else 0) + (if p2 then (if p4 then 1 else 0) + n else 0) := by
      intro p1 p2 p3 p4 _ _ _ _ m n
      by_cases h1 : p1 <;> by_cases h2 : p2 <;> by_cases h3 : p3 <;> by_cases h4 : p4 <;> simp [h1, h2, h3, h4] <;> omega
    exact key (x = b) (x = a) (d = a) (d = b) _ _
theorem cnS_prN {l : List Nat} {a b : Nat} (hab : a ≠ b) : ∀ m, m ≤ l.length → cnS (prN l m) a b = cntN (l.take m) a * cntN (l.take m) b
  | 0, _ => by simp [prN, cnS, cntN]
  | m + 1, h => by
    rw [prN, cnS_app, cnS_prN hab m (by omega), cnS_fl _ _ _ _ hab, take_snoc (by omega), cntN_app, cntN_app, cntN_one, cntN_one]
    generalize cntN (l.take m) a = p
    generalize cntN (l.take m) b = q
    by_cases h1 : nth l m = b
    · by_cases h2 : nth l m = a
      · exact absurd (h2.symm.trans h1) hab
      · simp only [if_pos h1, if_neg h2, Nat.add_zero, Nat.mul_add, Nat.mul_one]
    · by_cases h2 : nth l m = a
      · simp only [if_neg h1, if_pos h2, Nat.add_zero, Nat.zero_add, Nat.add_mul, Nat.one_mul]
      · simp only [if_neg h1, if_neg h2, Nat.add_zero]
def QG (gs : List (List Nat)) (k : Nat) : Nat → List Nat
  | 0 => []
  | g + 1 => QG gs k g ++ rowR gs k g
def PG (gs : List (List Nat)) (k : Nat) : Nat → List (Nat × Nat)
  | 0 => []
  | g + 1 => PG gs k g ++ prN (rowR gs k g) k
theorem PG_len (gs : List (List Nat)) {k : Nat} : ∀ g, (PG gs k g).length ≤ g * (k * (2 * k))
  | 0 => by show 0 ≤ _; omega
  | g + 1 => by
    have h1 := PG_len gs (k := k) g
    have h2 := prN_len (rowR gs k g) (k := k) k (Nat.le_refl _)
    rw [PG, List.length_append, Nat.succ_mul]
    omega
section
variable {v k r lam : Nat} {gs : List (List Nat)} (hW : WBal v k r lam gs)
include hW
theorem WBal.row {i : Nat} (hi : i < gs.length) : (nth gs i).length = k ∧ (∀ j, j < k → nth (nth gs i) j < v) ∧ ∀ x, x < v → cntN (nth gs i) x ≤ 1 := by
  have hy := hW.y 1 (by omega) (by omega)
  exact ⟨hy.d.len i hi, hy.d.lt i hi, fun x hx => hW.nod _ (nth_mem hi) x hx⟩
theorem WBal.r_ {a : Nat} (ha : a < v) : cn1 gs a = r := by
  have hy := hW.y 1 (by omega) (by omega)
  rw [← cn1_diag fun g hg => hW.nod g hg a ha, hy.b.at_ a ha a ha, if_pos rfl]
theorem WBal.l_ {a b : Nat} (ha : a < v) (hb : b < v) (hab : a ≠ b) : cn3 gs a b = lam := by
  have hy := hW.y 1 (by omega) (by omega)
  rw [hy.b.at_ a ha b hb, if_neg hab]
theorem WBal.rot {t g0 : Nat} (hg : g0 < gs.length) (ht : t < 3) (x : Nat) : cntN (rowR gs k (t * gs.length + g0)) x = cntN (nth gs g0) x := by
  have hy := hW.y 1 (by omega) (by omega)
  unfold rowR
  rw [show (t * gs.length + g0) % gs.length = g0 from by rw [Nat.mul_comm, Nat.mul_add_mod, Nat.mod_eq_of_lt hg], show (t * gs.length + g0) / gs.length = t from by rw [Nat.mul_comm, Nat.mul_add_div (by omega), Nat.div_eq_of_lt hg, Nat.add_zero]]
  exact rot_cnt (hW.row hg).1 hy.k4 hW.k6 ht x
theorem WBal.q_ {a : Nat} (ha : a < v) : ∀ t, t ≤ 3 → ∀ g0, g0 ≤ gs.length → (t = 3 → g0 = 0) → cntN (QG gs k (t * gs.length + g0)) a = t * r + cn1 (gs.take g0) a
  | 0, _, 0, _, _ => by simp [QG, cntN, cn1]
  | t + 1, h, 0, _, _ => by
    have ih := WBal.q_ ha t (by omega) gs.length (Nat.le_refl _) (by omega)
    rw [List.take_of_length_le (Nat.le_refl _), hW.r_ ha] at ih
    rw [show (t + 1) * gs.length + 0 = t * gs.length + gs.length from by rw [Nat.succ_mul, Nat.add_zero], ih, Nat.succ_mul]
    simp [cn1]
  | t, h, g0 + 1, hg, h3 => by
    have ht : t < 3 := by
      by_cases e : t = 3
      · exact absurd (h3 e) (by omega)
      · omega
    have ih := WBal.q_ ha t h g0 (by omega) (by omega)
    rw [show t * gs.length + (g0 + 1) = (t * gs.length + g0) + 1 from rfl, QG, cntN_app, ih, hW.rot (by omega) ht, cn1_snoc (by omega), Nat.add_assoc]
theorem WBal.p_ {a b : Nat} (ha : a < v) (hb : b < v) (hab : a ≠ b) : ∀ t, t ≤ 3 → ∀ g0, g0 ≤ gs.length → (t = 3 → g0 = 0) → cnS (PG gs k (t * gs.length + g0)) a b = t * lam + cn3 (gs.take g0) a b
  | 0, _, 0, _, _ => by simp [PG, cnS, cn3]
  | t + 1, h, 0, _, _ => by
    have ih := WBal.p_ ha hb hab t (by omega) gs.length (Nat.le_refl _) (by omega)
    rw [List.take_of_length_le (Nat.le_refl _), hW.l_ ha hb hab] at ih
    rw [show (t + 1) * gs.length + 0 = t * gs.length + gs.length from by rw [Nat.succ_mul, Nat.add_zero], ih, Nat.succ_mul]
    simp [cn3]
  | t, h, g0 + 1, hg, h3 => by
    have ht : t < 3 := by
      by_cases e : t = 3
      · exact absurd (h3 e) (by omega)
      · omega
    have ih := WBal.p_ ha hb hab t h g0 (by omega) (by omega)
    have ht2 : (rowR gs k (t * gs.length + g0)).take k = rowR gs k (t * gs.length + g0) := List.take_of_length_le (by rw [rowR_len]; exact Nat.le_refl _)
    rw [show t * gs.length + (g0 + 1) = (t * gs.length + g0) + 1 from rfl, PG, cnS_app, ih, cnS_prN hab k (by rw [rowR_len]; exact Nat.le_refl _), ht2, hW.rot (by omega) ht, hW.rot (by omega) ht, cn3_snoc (by omega), Nat.add_assoc]
end
end Go.Proofs.Ytdcijljfgcjelaa
namespace Go.Proofs.Ytdcijljfgcjelaa
set_option maxRecDepth 20000
open Go.RowKit
attribute [local irreducible] Calls
theorem map_cst {α : Type} {f : Nat → α} {n : Nat} {x : α} (h : ∀ i, f i = x) : (List.range n).map f = List.replicate n x := by
  rw [show f = fun _ => x from funext h, List.map_const', List.length_range]
theorem at_lt {d c b v : Nat} (hd : d < v) (hb : b < c) : d * c + b < v * c := by
  have : (d + 1) * c ≤ v * c := Nat.mul_le_mul_right _ hd
  rw [Nat.succ_mul] at this
  omega
theorem at_div {d c b : Nat} (hb : b < c) : (d * c + b) / c = d := by rw [Nat.mul_comm, Nat.mul_add_div (by omega), Nat.div_eq_of_lt hb, Nat.add_zero]
theorem at_mod {d c b : Nat} (hb : b < c) : (d * c + b) % c = b := by rw [Nat.mul_comm, Nat.mul_add_mod, Nat.mod_eq_of_lt hb]
def cntL (v : Nat) (Q : List Nat) : List Nat := (List.range v).map (cntN Q)
theorem cntL_len (v : Nat) (Q : List Nat) : (cntL v Q).length = v := by simp [cntL]
theorem cntL_at {v d : Nat} (Q : List Nat) (h : d < v) : nth (cntL v Q) d = cntN Q d := nth_range _ h
theorem cntL_zero (v : Nat) : cntL v [] = List.replicate v 0 := by
  unfold cntL
  rw [map_cst (f := cntN []) (fun _ => rfl)]
theorem cntL_set {v d : Nat} (Q : List Nat) (h : d < v) : (cntL v Q).set d (cntN Q d + 1) = cntL v (Q ++ [d]) :=
  list_ext_nth (by rw [List.length_set, cntL_len, cntL_len]) fun q hq => by
    have hq3 : q < v := by rw [List.length_set, cntL_len] at hq; exact hq
    rw [nth_set_eq (by rw [cntL_len]; exact h), cntL_at _ hq3, cntL_at _ hq3, cntN_app, cntN_one]
    by_cases e : q = d
    · subst e; rw [if_pos rfl, if_pos rfl]
    · rw [if_neg e, if_neg (fun h => e h.symm), Nat.add_zero]
def shM (v : Nat) (P : List (Nat × Nat)) : List Nat := (List.range (v * v)).map fun i => cnS P (i / v) (i % v)
theorem shM_len (v : Nat) (P : List (Nat × Nat)) : (shM v P).length = v * v := by simp [shM]
theorem shM_at {v a b : Nat} (P : List (Nat × Nat)) (ha : a < v) (hb : b < v) : nth (shM v P) (a * v + b) = cnS P a b := by
  have : nth (shM v P) (a * v + b) = cnS P ((a * v + b) / v) ((a * v + b) % v) := nth_range _ (at_lt ha hb)
  rw [this, at_div hb, at_mod hb]
theorem shM_zero (v : Nat) : shM v [] = List.replicate (v * v) 0 := by
  unfold shM
  exact map_cst (f := fun i => cnS [] (i / v) (i % v)) (fun _ => rfl)
theorem shM_set {v a b : Nat} (P : List (Nat × Nat)) (ha : a < v) (hb : b < v) : (shM v P).set (a * v + b) (cnS P a b + 1) = shM v (P ++ [(a, b)]) :=
  list_ext_nth (by rw [List.length_set, shM_len, shM_len]) fun q hq => by
    have hq3 : q < v * v := by rw [List.length_set, shM_len] at hq; exact hq
    have e1 : ∀ P, nth (shM v P) q = cnS P (q / v) (q % v) := fun P => nth_range _ hq3
    rw [nth_set_eq (by rw [shM_len]; exact at_lt ha hb), e1, e1, cnS_app]
    show _ = _ + ((if a = q / v ∧ b = q % v then 1 else 0) + 0)
    by_cases e : q = a * v + b
    · rw [if_pos e, e, at_div hb, at_mod hb, if_pos ⟨rfl, rfl⟩]
    · have : ¬ (a = q / v ∧ b = q % v) := fun ⟨h1, h2⟩ => e (by
        have := Nat.div_add_mod q v
        rw [← h1, ← h2, Nat.mul_comm] at this
        exact this.symm)
      rw [if_neg e, if_neg this]; rfl
def usL (v c : Nat) (Q : List Nat) : List Bool := (List.range (v * c)).map fun i => decide (i % c < cntN Q (i / c))
theorem usL_len (v c : Nat) (Q : List Nat) : (usL v c Q).length = v * c := by simp [usL]
theorem usL_at {v c d b : Nat} (Q : List Nat) (hd : d < v) (hb : b < c) : nth (usL v c Q) (d * c + b) = decide (b < cntN Q d) := by
  have : nth (usL v c Q) (d * c + b) = decide ((d * c + b) % c < cntN Q ((d * c + b) / c)) := nth_range _ (at_lt hd hb)
  rw [this, at_div hb, at_mod hb]
theorem usL_zero (v c : Nat) : usL v c [] = List.replicate (v * c) false := by
  unfold usL
  exact map_cst (f := fun i => decide (i % c < cntN [] (i / c))) (fun _ => decide_eq_false (Nat.not_lt_zero _))
theorem usL_set {v c d b : Nat} (Q : List Nat) (hd : d < v) (hb : b < c) (e : b = cntN Q d) : (usL v c Q).set (d * c + b) true = usL v c (Q ++ [d]) :=
  list_ext_nth (by rw [List.length_set, usL_len, usL_len]) fun q hq => by
    have hq3 : q < v * c := by rw [List.length_set, usL_len] at hq; exact hq
    have e1 : ∀ Q, nth (usL v c Q) q = decide (q % c < cntN Q (q / c)) := fun Q => nth_range _ hq3
    rw [nth_set_eq (by rw [usL_len]; exact at_lt hd hb), e1, e1, cntN_app, cntN_one]
    by_cases h : q = d * c + b
    · rw [if_pos h, h, at_div hb, at_mod hb, if_pos rfl, decide_eq_true (by omega)]
    · rw [if_neg h]
      by_cases h2 : d = q / c
      · have h3 : q % c ≠ b := fun h3 => h (by
          have := Nat.div_add_mod q c
          rw [← h2, h3, Nat.mul_comm] at this
          exact this.symm)
        rw [if_pos h2, ← h2, ← e]
        by_cases h4 : q % c < b
        · rw [decide_eq_true h4, decide_eq_true (by omega)]
        · rw [decide_eq_false h4, decide_eq_false (by omega)]
      · rw [if_neg h2, Nat.add_zero]
section
variable {v k r lam : Nat} {gs : List (List Nat)} (hW : WBal v k r lam gs)
include hW
theorem WBal.step {t g0 p : Nat} (hg : g0 < gs.length) (ht : t < 3) (hp : p < k) : ∃ D, nth (rowR gs k (t * gs.length + g0)) p = D ∧ nth (nth gs g0) ((p + t) % k) = D ∧ D < v ∧ t * r + rkF gs g0 ((p + t) % k) = cntN (QG gs k (t * gs.length + g0) ++ (rowR gs k (t * gs.length + g0)).take p) D ∧ t * r + rkF gs g0 ((p + t) % k) ≤ t * r + r ∧ ∀ e, e < p → nth (rowR gs k (t * gs.length + g0)) e ≠ D := by
  have hk := (hW.y 1 (by omega) (by omega)).k4
  have hR : ∀ p, p < k → nth (rowR gs k (t * gs.length + g0)) p = nth (nth gs g0) ((p + t) % k) := fun p hp => by
    rw [rowR_at hp, at_div hg, at_mod hg]
  obtain ⟨h1, h2, h3⟩ := hW.row hg
  have ha : (p + t) % k < k := Nat.mod_lt _ (by omega)
  have hD := h2 _ ha
  have hrp := hR p hp
  have hc1 : cntN (rowR gs k (t * gs.length + g0)) (nth (nth gs g0) ((p + t) % k)) ≤ 1 := by rw [hW.rot hg ht]; exact h3 _ hD
  have hb0 := cntN_before (l := rowR gs k (t * gs.length + g0)) (p := p) (by rw [rowR_len]; exact hp) (by rw [hrp]; exact hc1)
  rw [hrp] at hb0
  have hrk := rkF_eq (gs := gs) (g := g0) (i := (p + t) % k) hg (by omega) (h3 _ hD)
  have hq := hW.q_ hD t (by omega) g0 (by omega) (by omega)
  have hle := cn1_take gs g0 (nth (nth gs g0) ((p + t) % k))
  rw [hW.r_ hD] at hle
  refine ⟨_, hrp, rfl, hD, by rw [cntN_app, hb0, hq, hrk]; rfl, by omega, fun e he heq => ?_⟩
  have h5 := cntN_app ((rowR gs k (t * gs.length + g0)).take e) (((rowR gs k (t * gs.length + g0)).take p).drop e) (nth (nth gs g0) ((p + t) % k))
  have h6 : (rowR gs k (t * gs.length + g0)).take (e + 1) = (rowR gs k (t * gs.length + g0)).take e ++ [nth (rowR gs k (t * gs.length + g0)) e] := take_snoc (by rw [rowR_len]; omega)
  have h7 : (rowR gs k (t * gs.length + g0)).take p = (rowR gs k (t * gs.length + g0)).take (e + 1) ++ ((rowR gs k (t * gs.length + g0)).take p).drop (e + 1) := by
    have := (List.take_append_drop (e + 1) ((rowR gs k (t * gs.length + g0)).take p)).symm
    rwa [List.take_take, Nat.min_eq_left (by omega)] at this
  rw [h7, cntN_app, h6, cntN_app, cntN_one, heq, if_pos rfl] at hb0
  omega
end
end Go.Proofs.Ytdcijljfgcjelaa
namespace Go.Proofs.Ytdcijljfgcjelaa
set_option maxRecDepth 20000
open Go.RowKit
attribute [local irreducible] Calls
abbrev KT : TypeId := 86
theorem elKd : Elem Try.prog 87 KT (.agg #[iv 0, iv 0, .nilFunc]) 3 24 := ⟨by kernel_rfl, by kernel_rfl, rfl, by decide⟩
structure Cmp (v k : Nat) : Prop where
  v60 : v ≤ 60
  k4 : 4 ≤ k
  k16 : k ≤ 16
  kv : k ≤ v
  b : ∀ i, i ≤ min k (v - k) → cntF v i ≤ 1000000
  c : cntF v (min k (v - k)) ≤ 4096
  m : (cmb v k [] 0).length ≤ 100000
def cmpB (v k : Nat) : Bool := Nat.ble v 60 && Nat.ble 4 k && Nat.ble k 16 && Nat.ble k v && ((List.range (min k (v - k) + 1)).all fun i => Nat.ble (cntF v i) 1000000) && Nat.ble (cntF v (min k (v - k))) 4096 && Nat.ble (cmb v k [] 0).length 100000
theorem cmpB_spec {v k : Nat} (h : cmpB v k = true) : Cmp v k := by
  unfold cmpB at h
  simp only [Bool.and_eq_true, List.all_eq_true, List.mem_range] at h
  obtain ⟨⟨⟨⟨⟨⟨h1, h2⟩, h3⟩, h4⟩, h5⟩, h6⟩, h7⟩ := h
  exact ⟨Nat.le_of_ble_eq_true h1, Nat.le_of_ble_eq_true h2, Nat.le_of_ble_eq_true h3, Nat.le_of_ble_eq_true h4, fun i hi => Nat.le_of_ble_eq_true (h5 i (by omega)), Nat.le_of_ble_eq_true h6, Nat.le_of_ble_eq_true h7⟩
set_option maxHeartbeats 1000000 in
theorem choose_n (v k : Nat) (w : World) (h : Cmp v k) (h1 : k * k - k + 1 ≠ v) (h2 : k * k ≠ v) :
    Calls Try.prog 21 #[iv v, iv k] w fun e w' => ∃ u M, e = .returned u ∧ H w M w' ∧ ∃ A c rs, ils rs = cmb v k [] 0 ∧ u = .tuple #[dsgV v A c rs, iv 0] ∧ M = dsgA A c rs := by
  have hv60 := h.v60
  have hk4 := h.k4
  have hk16 := h.k16
  have hkv := h.kv
  have hcp := fun w => complete_n v k w hv60 (by omega) hkv h.b h.c h.m
  have hkk : k * k ≤ 256 := Nat.mul_le_mul hk16 hk16
  have hkl : k ≤ k * k := Nat.le_mul_of_pos_left k (by omega)
  have hmul : IntKind.i64.wrap ((k : Int) * k) = ((k * k : Nat) : Int) := by rw [← Int.natCast_mul]; exact IntWalk.i64_in _ (by omega)
  generalize k * k = q at *
  refine calls_wcG (args := [iv v, iv k]) [.cell 4 44, .tmp 5] [] Try.func21 rfl Try.ntmps21 rfl rfl (H.refl _) ?_
  refine WC.seq fun K hK => ?_
  refine WC.region rfl ?_
  refine WL.want rfl (WL1.alloc rfl rfl rfl rfl (fun b4 => ?_))
  refine wG rfl rfl (g_assign rfl (.mk (v := .int _ _) rfl rfl)) ?_
  refine WL.nil ?_
  (refine hK _ _ ?_; clear hK)
  refine WC.seq fun K hK => ?_
  refine WC.seq fun K hK => ?_
  refine WC.region rfl ?_
  refine wG rfl rfl (g_move rfl (.mk (v := .int _ _) rfl rfl)) ?_
  refine wG rfl rfl (g_lt rfl (.mk rfl rfl) (.mk rfl rfl) (decide_eq_false (by omega))) ?_
  refine wG rfl rfl (g_move rfl (.mk (v := .bool _) rfl rfl)) ?_
  refine WL.wantG rfl rfl rfl rfl (WL1.give rfl (g_move rfl (.mk (v := .int _ _) rfl rfl)) ?_)
  refine WL.wantG rfl rfl rfl rfl (WL1.give rfl (g_gt rfl (.mk rfl rfl) (.mk rfl rfl) (decide_eq_false (by omega))) ?_)
  refine wG rfl rfl (g_pickF rfl (.mk rfl rfl) (.mk (v := .bool _) rfl rfl)) ?_
  refine wG rfl rfl (g_move rfl (.mk (v := .bool _) rfl rfl)) ?_
  refine WL.wantG rfl rfl rfl rfl (WL1.give rfl (g_move rfl (.mk (v := .int _ _) rfl rfl)) ?_)
  refine WL.wantG rfl rfl rfl rfl (WL1.give rfl (g_move rfl (.mk (v := .int _ _) rfl rfl)) ?_)
  refine WL.wantG rfl rfl rfl rfl (WL1.give rfl (g_lt rfl (.mk rfl rfl) (.mk rfl rfl) (decide_eq_false (by omega))) ?_)
  refine wG rfl rfl (g_pickF rfl (.mk rfl rfl) (.mk (v := .bool _) rfl rfl)) ?_
  refine wG rfl rfl (g_move rfl (.mk (v := .bool _) rfl rfl)) ?_
  refine WL.wantG rfl rfl rfl rfl (WL1.give rfl (g_move rfl (.mk (v := .int _ _) rfl rfl)) ?_)
  refine WL.wantG rfl rfl rfl rfl (WL1.give rfl (g_gt rfl (.mk rfl rfl) (.mk rfl rfl) (decide_eq_false (by omega))) ?_)
  refine wG rfl rfl (g_pickF rfl (.mk rfl rfl) (.mk (v := .bool _) rfl rfl)) ?_
  refine WL.nil ?_
  (refine hK _ _ ?_; clear hK)
  refine WC.cond_false (.mk rfl rfl) ?_
  refine WC.skip ?_
  (refine hK _ _ ?_; clear hK)
  refine WC.seq fun K hK => ?_
  refine WC.region rfl ?_
  refine wG rfl rfl (g_move rfl (.mk (v := .int _ _) rfl rfl)) ?_
  refine wG rfl rfl (g_move rfl (.mk (v := .int _ _) rfl rfl)) ?_
  refine wG rfl rfl (g_mul rfl (.mk rfl rfl) (.mk rfl rfl) hmul) ?_
  refine wG rfl rfl (g_move rfl (.mk (v := .int _ _) rfl rfl)) ?_
  refine wG rfl rfl (g_sub rfl (.mk rfl rfl) (.mk rfl rfl) (IntWalk.i64_in _ (by omega))) ?_
  refine wG rfl rfl (g_add rfl (.mk rfl rfl) (.mk rfl rfl) (IntWalk.i64_in _ (by omega))) ?_
  refine wG rfl rfl (g_move rfl (.mk (v := .int _ _) rfl rfl)) ?_
  refine wG rfl rfl (g_sub rfl (.mk rfl rfl) (.mk rfl rfl) (IntWalk.i64_in _ (by omega))) ?_
  refine wG rfl rfl (g_build (cs := [_, _, _]) rfl rfl rfl rfl (.cons (.mk (v := .int _ _) rfl rfl) (.cons (.mk (v := .int _ _) rfl rfl) (.cons (.mk (v := .func _ _ _) rfl rfl) .nil))) rfl rfl rfl) ?_
  refine wG rfl rfl (g_move rfl (.mk (v := .int _ _) rfl rfl)) ?_
  refine wG rfl rfl (g_move rfl (.mk (v := .int _ _) rfl rfl)) ?_
  refine wG rfl rfl (g_mul rfl (.mk rfl rfl) (.mk rfl rfl) hmul) ?_
  refine wG rfl rfl (g_move rfl (.mk (v := .int _ _) rfl rfl)) ?_
  refine wG rfl rfl (g_build (cs := [_, _, _]) rfl rfl rfl rfl (.cons (.mk (v := .int _ _) rfl rfl) (.cons (.mk (v := .int _ _) rfl rfl) (.cons (.mk (v := .func _ _ _) rfl rfl) .nil))) rfl rfl rfl) ?_
  refine WL.want rfl (WL1.lit elKd rfl rfl rfl (.cons (.mk (v := .agg _) rfl rfl) (.cons (.mk (v := .agg _) rfl rfl) .nil)) rfl (by intro v hv; simp only [List.mem_cons, List.not_mem_nil, or_false] at hv; rcases hv with rfl | rfl <;> rfl) rfl rfl (fun b41 => ?_))
  refine wG rfl rfl (g_assign rfl (.mk (v := .slice _ _ _) rfl rfl)) ?_
  refine WL.nil ?_
  (refine hK _ _ ?_; clear hK)
  refine WC.seq fun K hK => ?_
  refine WC.seq fun K hK => ?_
  refine WC.region rfl ?_
  refine wG rfl rfl (g_move rfl (.mk (v := .slice _ _ _) rfl rfl)) ?_
  refine wG rfl rfl (g_len rfl (.mk rfl rfl) rfl) ?_
  refine wG rfl rfl (g_move rfl (.mk (v := .int _ _) rfl rfl)) ?_
  refine WL.nil ?_
  (refine hK _ _ ?_; clear hK)
  refine WC.block ?_
  have g0 : ∀ j u, ([iv ((q : Int) - k + 1), iv ((k : Int) - 1), .func (.func 40) #[] #[]] : List Value)[j]? = some u → ([iv ((q : Int) - k + 1), iv ((k : Int) - 1), .func (.func 40) #[] #[], iv q, iv k, .func (.func 41) #[] #[]] : List Value)[0 * 3 + j]? = some u := fun j u h => pre_get (es := [iv q, iv k, .func (.func 41) #[] #[]]) (by omega) h
  have g1 : ∀ j u, ([iv q, iv k, .func (.func 41) #[] #[]] : List Value)[j]? = some u → ([iv ((q : Int) - k + 1), iv ((k : Int) - 1), .func (.func 40) #[] #[], iv q, iv k, .func (.func 41) #[] #[]] : List Value)[1 * 3 + j]? = some u := fun j u h => by
    match j, h with
    | 0, h => exact h
    | 1, h => exact h
    | 2, h => exact h
    | j + 3, h => simp at h
  refine WC.imp (M := [vec (some ⟨b41, 0, none⟩) 2 2 KT 3 [iv ((q : Int) - k + 1), iv ((k : Int) - 1), .func (.func 40) #[] #[], iv q, iv k, .func (.func 41) #[] #[]], pt b4 DT [iv 0, .slice none 0 0]]) (Imp.refl _) ?_
  refine WC.loop (18446726481523509024) (fun i : Nat => [(44, iv i)]) (fun _ => [vec (some ⟨b41, 0, none⟩) 2 2 KT 3 [iv ((q : Int) - k + 1), iv ((k : Int) - 1), .func (.func 40) #[] #[], iv q, iv k, .func (.func 41) #[] #[]], pt b4 DT [iv 0, .slice none 0 0]]) (fun i => i ≤ 2) (fun i => 2 - i) 0 ⟨rfl, trivial⟩ (.refl _) (by omega) ?_
  intro i U hi
  obtain rfl | rfl | rfl : i = 0 ∨ i = 1 ∨ i = 2 := by omega
  · refine WC.seq fun K hK => ?_
    refine WC.region rfl ?_
    refine wG rfl rfl (g_lt rfl (.mk rfl rfl) (.mk rfl rfl) (decide_eq_true (by omega))) ?_
    refine WL.nil ?_
    (refine hK _ _ ?_; clear hK)
    refine WC.seq fun K hK => ?_
    refine WC.cond_true (.mk rfl rfl) ?_
    refine WC.skip ?_
    (refine hK _ _ ?_; clear hK)
    refine WC.seq fun K hK => ?_
    refine WC.block ?_
    refine WC.seq fun K hK => ?_
    refine WC.region rfl ?_
    refine wG rfl rfl (g_indexAddr (sz := 3) rfl (.mk rfl rfl) (.mk rfl rfl) rfl rfl (show _ = ((0 : Nat) : Int) from rfl) (by omega) (fun _ _ => rfl)) ?_
    refine wG rfl rfl (g_loadA rfl (.mk rfl rfl) rfl rfl (rdr_vec (cs := [iv ((q : Int) - k + 1), iv ((k : Int) - 1), .func (.func 40) #[] #[]]) (by first | ((repeat (first | exact .head _ | apply List.Mem.tail)); done) | fail) (by omega) g0)) ?_
    refine WL.want rfl (WL1.alloc rfl rfl rfl rfl (fun b8 => ?_))
    refine WL.want rfl (WL1.storeAll rfl rfl (.mk rfl rfl) (.mk rfl rfl) rfl (all1 rfl) (by first | rfl | (simp [Blk.len]; done)) (.head) ?_)
    refine WL.nil ?_
    (refine hK _ _ ?_; clear hK)
    refine WC.seq fun K hK => ?_
    refine WC.seq fun K hK => ?_
    refine WC.region rfl ?_
    refine wG rfl rfl (g_fieldAddr (off := 0) rfl (.mk rfl rfl) rfl (fun _ _ => rfl)) ?_
    refine wG rfl rfl (g_load rfl (.mk rfl rfl) rfl (rd_pt (.head _) rfl)) ?_
    refine wG rfl rfl (g_move rfl (.mk (v := .int _ _) rfl rfl)) ?_
    refine wG rfl rfl (g_ne rfl (.mk rfl rfl) (.mk rfl rfl) (decide_eq_true (by omega))) ?_
    refine WL.nil ?_
    (refine hK _ _ ?_; clear hK)
    refine WC.cond_true (.mk rfl rfl) ?_
    refine WC.exit ?_
    (clear hK; refine hK _ _ ?_; clear hK)
    refine WC.region rfl ?_
    refine wG rfl rfl (g_add rfl (.mk rfl rfl) (.mk rfl rfl) (IntWalk.i64_in _ (by omega))) ?_
    refine wG rfl rfl (g_move rfl (.mk (v := .int _ _) rfl rfl)) ?_
    refine WL.nil ?_
    exact ⟨1, (by repeat (first | with_reducible exact Out.refl _ _ | refine Out.set rfl ?_ | refine Out.put rfl ?_ | refine Out.sets rfl ?_ | refine Out.hav rfl ?_ | exact Out.refl _ _)), ⟨rfl, trivial⟩, .cons _ (.refl _), by omega, by omega⟩
  · refine WC.seq fun K hK => ?_
    refine WC.region rfl ?_
    refine wG rfl rfl (g_lt rfl (.mk rfl rfl) (.mk rfl rfl) (decide_eq_true (by omega))) ?_
    refine WL.nil ?_
    (refine hK _ _ ?_; clear hK)
    refine WC.seq fun K hK => ?_
    refine WC.cond_true (.mk rfl rfl) ?_
    refine WC.skip ?_
    (refine hK _ _ ?_; clear hK)
    refine WC.seq fun K hK => ?_
    refine WC.block ?_
    refine WC.seq fun K hK => ?_
    refine WC.region rfl ?_
    refine wG rfl rfl (g_indexAddr (sz := 3) rfl (.mk rfl rfl) (.mk rfl rfl) rfl rfl (show _ = ((1 : Nat) : Int) from rfl) (by omega) (fun _ _ => rfl)) ?_
    refine wG rfl rfl (g_loadA rfl (.mk rfl rfl) rfl rfl (rdr_vec (cs := [iv q, iv k, .func (.func 41) #[] #[]]) (by first | ((repeat (first | exact .head _ | apply List.Mem.tail)); done) | fail) (by omega) g1)) ?_
    refine WL.want rfl (WL1.alloc rfl rfl rfl rfl (fun b8 => ?_))
    refine WL.want rfl (WL1.storeAll rfl rfl (.mk rfl rfl) (.mk rfl rfl) rfl (all1 rfl) (by first | rfl | (simp [Blk.len]; done)) (.head) ?_)
    refine WL.nil ?_
    (refine hK _ _ ?_; clear hK)
    refine WC.seq fun K hK => ?_
    refine WC.seq fun K hK => ?_
    refine WC.region rfl ?_
    refine wG rfl rfl (g_fieldAddr (off := 0) rfl (.mk rfl rfl) rfl (fun _ _ => rfl)) ?_
    refine wG rfl rfl (g_load rfl (.mk rfl rfl) rfl (rd_pt (.head _) rfl)) ?_
    refine wG rfl rfl (g_move rfl (.mk (v := .int _ _) rfl rfl)) ?_
    refine wG rfl rfl (g_ne rfl (.mk rfl rfl) (.mk rfl rfl) (decide_eq_true (by omega))) ?_
    refine WL.nil ?_
    (refine hK _ _ ?_; clear hK)
    refine WC.cond_true (.mk rfl rfl) ?_
    refine WC.exit ?_
    (clear hK; refine hK _ _ ?_; clear hK)
    refine WC.region rfl ?_
    refine wG rfl rfl (g_add rfl (.mk rfl rfl) (.mk rfl rfl) (IntWalk.i64_in _ (by omega))) ?_
    refine wG rfl rfl (g_move rfl (.mk (v := .int _ _) rfl rfl)) ?_
    refine WL.nil ?_
    exact ⟨2, (by repeat (first | with_reducible exact Out.refl _ _ | refine Out.set rfl ?_ | refine Out.put rfl ?_ | refine Out.sets rfl ?_ | refine Out.hav rfl ?_ | exact Out.refl _ _)), ⟨rfl, trivial⟩, .cons _ (.refl _), by omega, by omega⟩
  · refine WC.seq fun K hK => ?_
    refine WC.region rfl ?_
    refine wG rfl rfl (g_lt rfl (.mk rfl rfl) (.mk rfl rfl) (decide_eq_false (by omega))) ?_
    refine WL.nil ?_
    (refine hK _ _ ?_; clear hK)
    refine WC.seq fun K hK => ?_
    refine WC.cond_false (.mk rfl rfl) ?_
    refine WC.exit ?_
    (clear hK; refine hK _ _ ?_; clear hK)
    refine WC.seq fun K hK => ?_
    refine WC.region rfl ?_
    refine wG rfl rfl (g_move rfl (.mk (v := .int _ _) rfl rfl)) ?_
    refine wG rfl rfl (g_move rfl (.mk (v := .int _ _) rfl rfl)) ?_
    (refine WL.want rfl (WL1.callN rfl rfl rfl (.cons (.mk (v := .int _ _) rfl rfl) (.cons (.mk (v := .int _ _) rfl rfl) .nil)) (fun w hw => hcp w) ?_); rintro _ _ ⟨A, c, rs, hrs, rfl, rfl⟩)
    refine wG rfl rfl (g_extract rfl (.mk rfl rfl) rfl) ?_
    refine wG rfl rfl (g_extract rfl (.mk rfl rfl) rfl) ?_
    refine WL.want rfl (WL1.storeAll rfl rfl (.mk rfl rfl) (.mk rfl rfl) rfl (all1 rfl) (by first | rfl | (simp [Blk.len]; done)) (.tail (.tail (.tail (.head)))) ?_)
    refine wG rfl rfl (g_assign rfl (.mk (v := .int _ _) rfl rfl)) ?_
    refine WL.nil ?_
    (refine hK _ _ ?_; clear hK)
    refine WC.ret ?_
    exact ⟨_, .cell rfl rfl rfl rfl (by first | ((repeat (first | exact .head _ | apply List.Mem.tail)); done) | fail) (.tmp rfl rfl .nil), fun w' hw' => ⟨_, _, rfl, (Imp.pick (by repeat (first | exact .head | apply Take.tail)) (Imp.pick (by repeat (first | exact .head | apply Take.tail)) (Imp.nil _))).h hw', A, c, rs, hrs, rfl, rfl⟩⟩
end Go.Proofs.Ytdcijljfgcjelaa
namespace Go.Proofs.Ytdcijljfgcjelaa
set_option maxRecDepth 20000
open Go.RowKit
def gdT (bs : List Bool) (n : Nat) : Nat → List Nat
  | 0 => []
  | i + 1 => if nth bs i = false ∧ (gdT bs n i).length < n then gdT bs n i ++ [i] else gdT bs n i
def cnt (bs : List Bool) : Nat → Nat
  | 0 => 0
  | i + 1 => cnt bs i + if nth bs i then 1 else 0
variable {bs : List Bool} {n : Nat}
theorem cnt_le : ∀ i, cnt bs i ≤ i
  | 0 => Nat.le_refl _
  | i + 1 => by have := cnt_le i; show cnt bs i + (if nth bs i then 1 else 0) ≤ i + 1; split <;> omega
theorem gdT_take {i : Nat} (h : nth bs i = false) (hl : (gdT bs n i).length < n) : gdT bs n (i + 1) = gdT bs n i ++ [i] := if_pos ⟨h, hl⟩
theorem gdT_bad {i : Nat} (h : nth bs i = true) : gdT bs n (i + 1) = gdT bs n i := if_neg fun ⟨h1, _⟩ => by rw [h] at h1; cases h1
theorem gdT_over {i : Nat} (h : ¬ (gdT bs n i).length < n) : gdT bs n (i + 1) = gdT bs n i := if_neg fun ⟨_, h2⟩ => h h2
theorem gdT_len : ∀ i, (gdT bs n i).length = min n (i - cnt bs i)
  | 0 => by show 0 = min n (0 - cnt bs 0); omega
  | i + 1 => by
    have ih := gdT_len i
    have hc := cnt_le (bs := bs) i
    have hs : cnt bs (i + 1) = cnt bs i + if nth bs i then 1 else 0 := rfl
    cases hb : nth bs i with
    | true => rw [gdT_bad hb, hs, hb, if_pos rfl]; omega
    | false =>
      rw [hs, hb]
      by_cases hl : (gdT bs n i).length < n
      · rw [gdT_take hb hl, List.length_append]; simp; omega
      · rw [gdT_over hl]; simp; omega
theorem gdT_lt : ∀ i, ∀ a ∈ gdT bs n i, a < i ∧ nth bs a = false
  | 0, a, h => by cases h
  | i + 1, a, h => by
    by_cases hc : nth bs i = false ∧ (gdT bs n i).length < n
    · rw [gdT_take hc.1 hc.2] at h
      rcases List.mem_append.1 h with h | h
      · have := gdT_lt i a h; exact ⟨by omega, this.2⟩
      · rw [List.mem_singleton] at h; subst h; exact ⟨by omega, hc.1⟩
    · rw [gdT, if_neg hc] at h
      have := gdT_lt i a h; exact ⟨by omega, this.2⟩
theorem gdT_inc : ∀ i, ∀ k, k + 1 < (gdT bs n i).length → nth (gdT bs n i) k < nth (gdT bs n i) (k + 1)
  | 0, k, h => by cases h
  | i + 1, k, h => by
    by_cases hc : nth bs i = false ∧ (gdT bs n i).length < n
    · rw [gdT_take hc.1 hc.2] at h ⊢
      rw [List.length_append] at h
      simp at h
      rw [nth_app, nth_app, if_pos (by omega)]
      by_cases e : k + 1 < (gdT bs n i).length
      · rw [if_pos e]; exact gdT_inc i k e
      · rw [if_neg e, show k + 1 - (gdT bs n i).length = 0 from by omega, nth_zero]
        exact (gdT_lt i _ (nth_mem (by omega))).1
    · rw [gdT, if_neg hc] at h ⊢
      exact gdT_inc i k h
theorem gdT_wfr (hc : cnt bs (n + 3) ≤ 3) : Wfr n (gdT bs n (n + 3)) := by
  have hl : (gdT bs n (n + 3)).length = n := by rw [gdT_len]; omega
  exact ⟨hl, fun i hi => (gdT_lt _ _ (nth_mem (by omega))).1, fun k hk => gdT_inc _ k (by omega)⟩
def decP (ps : List Blk) (bs : List Bool) (n j : Nat) : List Blk := (List.range (n + 3)).map fun i => if i < j ∧ nth bs i = true then comb (wts n (gdT bs n (n + 3)) i) ((gdT bs n (n + 3)).map (nth ps)) n else nth ps i
def decL (ps : List Blk) (bs : List Bool) (n : Nat) : List Blk := decP ps bs n (n + 3)
theorem decP_len (ps : List Blk) (bs : List Bool) (n j : Nat) : (decP ps bs n j).length = n + 3 := by simp [decP]
theorem decP_nth (ps : List Blk) (bs : List Bool) (n j : Nat) {i : Nat} (h : i < n + 3) : nth (decP ps bs n j) i = if i < j ∧ nth bs i = true then comb (wts n (gdT bs n (n + 3)) i) ((gdT bs n (n + 3)).map (nth ps)) n else nth ps i := nth_range _ h
theorem decP_zero {ps : List Blk} (h : ps.length = n + 3) : decP ps bs n 0 = ps := list_ext_nth (by rw [decP_len, h]) fun k hk => by
  rw [decP_nth _ _ _ _ (by rw [decP_len] at hk; exact hk), if_neg (by omega)]
theorem decP_set {ps : List Blk} {j : Nat} (hj : j < n + 3) (hb : nth bs j = true) : (decP ps bs n j).set j (comb (wts n (gdT bs n (n + 3)) j) ((gdT bs n (n + 3)).map (nth ps)) n) = decP ps bs n (j + 1) :=
  list_ext_nth (by rw [List.length_set, decP_len, decP_len]) fun q hq => by
    have hq3 : q < n + 3 := by rw [List.length_set, decP_len] at hq; exact hq
    rw [nth_set_eq (by rw [decP_len]; exact hj), decP_nth _ _ _ _ hq3, decP_nth _ _ _ _ hq3]
    by_cases e : q = j
    · subst e; rw [if_pos rfl, if_pos ⟨by omega, hb⟩]
    · rw [if_neg e]
      by_cases e2 : q < j ∧ nth bs q = true
      · rw [if_pos e2, if_pos ⟨by omega, e2.2⟩]
      · rw [if_neg e2, if_neg fun h => e2 ⟨by omega, h.2⟩]
theorem decP_skip {ps : List Blk} {j : Nat} (hb : ¬ nth bs j = true) : decP ps bs n j = decP ps bs n (j + 1) := List.map_congr_left fun q _ => by
  by_cases e : q < j ∧ nth bs q = true
  · rw [if_pos e, if_pos ⟨by omega, e.2⟩]
  · rw [if_neg e, if_neg fun h => e ⟨by
      have h1 := h.1
      have : q ≠ j := fun h' => hb (h' ▸ h.2)
      omega, h.2⟩]
end Go.Proofs.Ytdcijljfgcjelaa
namespace Go.Proofs.Ytdcijljfgcjelaa
set_option maxRecDepth 20000
open Go.RowKit
attribute [local irreducible] Calls
theorem kvs_snoc (l : List Blk) (b : Blk) : kvs l ++ b.cells = kvs (l ++ [b]) := by simp [kvs]
set_option maxHeartbeats 4000000 in
theorem decode_c (vp vb : Value) (ps : List Blk) (bs : List Bool) (n : Nat) (w : World) (hp : Sl w 8 vp ps.length (kvs ps)) (hb : Sl w 1 vb bs.length (bls bs)) (h1 : 1 ≤ n) (h2 : n ≤ 13) (hpl : ps.length = n + 3) (hbl : bs.length = n + 3) :
    Calls Try.prog 8 #[vp, vb] w fun e w' => ∃ v' M, e = .returned v' ∧ H w M w' ∧ ((3 < cnt bs (n + 3) ∧ v' = .tuple #[.slice none 0 0, iv 12]) ∨ (cnt bs (n + 3) ≤ 3 ∧ ∃ A c, v' = .tuple #[.slice A (n + 3) c, iv 0] ∧ M = [vec A (n + 3) c 25 8 (kvs (decL ps bs n))])) := by
  obtain ⟨A, c, rfl, hcc, hm, hs⟩ := hp.open_
  obtain ⟨B, d, rfl, hcd, hmd, hsb⟩ := hb.open_
  obtain ⟨m, hmn⟩ : ∃ m, m = n + 3 := ⟨_, rfl⟩
  rw [← hmn] at hpl hbl ⊢
  have hsub : IntKind.i64.wrap ((m : Int) - 3) = (n : Int) := by rw [IntWalk.i64_in _ (by omega)]; omega
  have hpos : ∀ w', Calls Try.prog 26 #[iv m] w' fun e w2 => e = .returned (.bool true) ∧ Below w'.heap.size w' w2 := fun w' => by
    have := possible_i m w'
    rwa [decide_eq_true (by omega)] at this
  rw [hpl] at hs hcc
  rw [hbl] at hsb hcd
  rw [hpl, hbl]
  refine calls_wc (args := [.slice A m c, .slice B m d]) [4, 5] [] Try.func8 rfl Try.ntmps8 rfl rfl rfl rfl (H.refl w) ?_
  refine WC.seq fun K hK => ?_
  refine WC.region rfl ?_
  refine wG rfl rfl (g_assign rfl (.mk (v := .slice _ _ _) rfl rfl)) ?_
  refine wG rfl rfl (g_assign rfl (.mk (v := .int _ _) rfl rfl)) ?_
  refine WL.nil ?_
  (refine hK _ _ ?_; clear hK)
  refine WC.seq fun K hK => ?_
  refine WC.region rfl ?_
  refine wG rfl rfl (g_move rfl (.mk (v := .slice _ _ _) rfl rfl)) ?_
  refine wG rfl rfl (g_len rfl (.mk rfl rfl) rfl) ?_
  refine wG rfl rfl (g_assign rfl (.mk (v := .int _ _) rfl rfl)) ?_
  refine WL.nil ?_
  (refine hK _ _ ?_; clear hK)
  refine WC.seq fun K hK => ?_
  refine WC.seq fun K hK => ?_
  refine WC.region rfl ?_
  refine wG rfl rfl (g_move rfl (.mk (v := .int _ _) rfl rfl)) ?_
  refine WL.want rfl (WL1.callP rfl rfl rfl (.cons (.mk (v := .int _ _) rfl rfl) .nil) (fun w hw => hpos w) ?_)
  refine wG rfl rfl (g_notT rfl (.mk rfl rfl)) ?_
  refine wG rfl rfl (g_move rfl (.mk (v := .bool _) rfl rfl)) ?_
  refine WL.wantG rfl rfl rfl rfl (WL1.give rfl (g_move rfl (.mk (v := .slice _ _ _) rfl rfl)) ?_)
  refine WL.wantG rfl rfl rfl rfl (WL1.give rfl (g_len rfl (.mk rfl rfl) rfl) ?_)
  refine WL.wantG rfl rfl rfl rfl (WL1.give rfl (g_move rfl (.mk (v := .int _ _) rfl rfl)) ?_)
  refine WL.wantG rfl rfl rfl rfl (WL1.give rfl (g_ne rfl (.mk rfl rfl) (.mk rfl rfl) (decide_eq_false (by omega))) ?_)
  refine wG rfl rfl (g_pickF rfl (.mk rfl rfl) (.mk (v := .bool _) rfl rfl)) ?_
  refine WL.nil ?_
  (refine hK _ _ ?_; clear hK)
  refine WC.cond_false (.mk rfl rfl) ?_
  refine WC.skip ?_
  (refine hK _ _ ?_; clear hK)
  refine WC.seq fun K hK => ?_
  refine WC.region rfl ?_
  refine wG rfl rfl (g_assign rfl (.mk (v := .slice _ _ _) rfl rfl)) ?_
  refine WL.nil ?_
  (refine hK _ _ ?_; clear hK)
  refine WC.seq fun K hK => ?_
  refine WC.region rfl ?_
  refine wG rfl rfl (g_assign rfl (.mk (v := .slice _ _ _) rfl rfl)) ?_
  refine WL.nil ?_
  (refine hK _ _ ?_; clear hK)
  refine WC.seq fun K hK => ?_
  refine WC.seq fun K hK => ?_
  refine WC.region rfl ?_
  refine wG rfl rfl (g_move rfl (.mk (v := .slice _ _ _) rfl rfl)) ?_
  refine wG rfl rfl (g_len rfl (.mk rfl rfl) rfl) ?_
  refine wG rfl rfl (g_move rfl (.mk (v := .int _ _) rfl rfl)) ?_
  refine WL.nil ?_
  (refine hK _ _ ?_; clear hK)
  refine WC.block ?_
  refine WC.nilvec 3 1 (WC.nilvec 25 8 ?_)
  refine WC.loopF5 (fun (i : Nat) (F : Option Addr) (fc : Nat) (Y : Option Addr) (yc : Nat) => [(29, iv i), (7, .slice F (gdT bs n i).length fc), (8, .slice Y (gdT bs n i).length yc), (0, .slice A m c), (1, .slice B m d), (6, iv m), (27, .slice B m d), (28, iv m), (4, .slice none 0 0), (5, iv 0)]) (fun i F fc Y yc => [vec F (gdT bs n i).length fc 3 1 (ldv (gdT bs n i)), vec Y (gdT bs n i).length yc 25 8 (kvs ((gdT bs n i).map (nth ps)))]) (fun i _ _ _ _ => i ≤ m) (fun i _ _ _ _ => m - i) 0 none 0 none 0 (by repeat (first | exact trivial | refine ⟨rfl, ?_⟩)) (Imp.pick (A := vec none 0 0 3 1 []) (by repeat (first | exact .head | apply Take.tail)) (Imp.pick (A := vec none 0 0 25 8 []) (by repeat (first | exact .head | apply Take.tail)) (Imp.nil _))) (by omega) ?_
  intro i F fc Y yc U hi
  have hgl := gdT_len (bs := bs) (n := n) i
  obtain ⟨g, hg⟩ : ∃ g, g = gdT bs n i := ⟨_, rfl⟩
  rw [← hg] at hgl ⊢
  have hml : (g.map (nth ps)).length = g.length := by rw [List.length_map]
  by_cases hlt : i < m
  · have hgv := bls_get (l := bs) (k := i) (by omega)
    cases hbi : nth bs i with
    | true =>
      rw [hbi] at hgv
      have hst : gdT bs n (i + 1) = g := by rw [gdT_bad hbi, hg]
      refine WC.seq fun K hK => ?_
      refine WC.region rfl ?_
      refine wG rfl rfl (g_lt rfl (.mk rfl rfl) (.mk rfl rfl) (decide_eq_true (by omega))) ?_
      refine WL.nil ?_
      (refine hK _ _ ?_; clear hK)
      refine WC.seq fun K hK => ?_
      refine WC.cond_true (.mk rfl rfl) ?_
      refine WC.skip ?_
      (refine hK _ _ ?_; clear hK)
      refine WC.seq fun K hK => ?_
      refine WC.block ?_
      refine WC.seq fun K hK => ?_
      refine WC.region rfl ?_
      refine wG rfl rfl (g_move rfl (.mk (v := .int _ _) rfl rfl)) ?_
      refine wG rfl rfl (g_indexAddr (sz := 1) rfl (.mk rfl rfl) (.mk rfl rfl) rfl rfl rfl (by omega) (fun _ _ => sl_some hsb (by omega))) ?_
      refine wG rfl rfl (g_load rfl (.mk rfl rfl) rfl (rd_sl hsb hgv)) ?_
      refine wG rfl rfl (g_assign rfl (.mk (v := .int _ _) rfl rfl)) ?_
      refine wG rfl rfl (g_assign rfl (.mk (v := .bool _) rfl rfl)) ?_
      refine WL.nil ?_
      (refine hK _ _ ?_; clear hK)
      refine WC.seq fun K hK => ?_
      refine WC.region rfl ?_
      refine wG rfl rfl (g_move rfl (.mk (v := .bool _) rfl rfl)) ?_
      refine wG rfl rfl (g_notT rfl (.mk rfl rfl)) ?_
      refine wG rfl rfl (g_move rfl (.mk (v := .bool _) rfl rfl)) ?_
      refine WL.skipG rfl rfl rfl rfl rfl rfl ?_
      refine WL.skipG rfl rfl rfl rfl rfl rfl ?_
      refine WL.skipG rfl rfl rfl rfl rfl rfl ?_
      refine WL.skipG rfl rfl rfl rfl rfl rfl ?_
      refine WL.skipG rfl rfl rfl rfl rfl rfl ?_
      refine wG rfl rfl (g_pickF rfl (.mk rfl rfl) (.mk (v := .bool _) rfl rfl)) ?_
      refine WL.nil ?_
      (refine hK _ _ ?_; clear hK)
      refine WC.cond_false (.mk rfl rfl) ?_
      refine WC.skip ?_
      (refine hK _ _ ?_; clear hK)
      refine WC.region rfl ?_
      refine wG rfl rfl (g_add rfl (.mk rfl rfl) (.mk rfl rfl) (IntWalk.i64_in _ (by omega))) ?_
      refine wG rfl rfl (g_move rfl (.mk (v := .int _ _) rfl rfl)) ?_
      refine WL.nil ?_
      exact ⟨i + 1, F, fc, Y, yc, by rw [hst]; exact (by repeat (first | exact trivial | refine ⟨rfl, ?_⟩)), by rw [hst]; exact .refl _, by omega, by omega⟩
    | false =>
      rw [hbi] at hgv
      by_cases hfl : g.length < n
      · have hst : gdT bs n (i + 1) = g ++ [i] := by rw [gdT_take hbi (by rw [← hg]; exact hfl), hg]
        have hgd : ∀ j u, (nth ps i).cells[j]? = some u → (kvs ps)[i * 8 + j]? = some u := fun j u h => flat_row blk8 (by omega) j u h
        have hl1 : (g ++ [i]).length = g.length + 1 := by rw [List.length_append]; rfl
        have hmp : (g ++ [i]).map (nth ps) = g.map (nth ps) ++ [nth ps i] := by rw [List.map_append]; rfl
        have hbb : ∀ {w' : World} {L' : List Asrt} {b : Nat} (hw : H w L' w') (hm : vec (some ⟨b, 0, none⟩) 1 1 25 8 (nth ps i).cells ∈ L'), Sl w' 8 (.slice (some ⟨b, 0, none⟩) 1 1) 1 (nth ps i).cells := fun hw hm => Sl.of_vec hw hm
        refine WC.seq fun K hK => ?_
        refine WC.region rfl ?_
        refine wG rfl rfl (g_lt rfl (.mk rfl rfl) (.mk rfl rfl) (decide_eq_true (by omega))) ?_
        refine WL.nil ?_
        (refine hK _ _ ?_; clear hK)
        refine WC.seq fun K hK => ?_
        refine WC.cond_true (.mk rfl rfl) ?_
        refine WC.skip ?_
        (refine hK _ _ ?_; clear hK)
        refine WC.seq fun K hK => ?_
        refine WC.block ?_
        refine WC.seq fun K hK => ?_
        refine WC.region rfl ?_
        refine wG rfl rfl (g_move rfl (.mk (v := .int _ _) rfl rfl)) ?_
        refine wG rfl rfl (g_indexAddr (sz := 1) rfl (.mk rfl rfl) (.mk rfl rfl) rfl rfl rfl (by omega) (fun _ _ => sl_some hsb (by omega))) ?_
        refine wG rfl rfl (g_load rfl (.mk rfl rfl) rfl (rd_sl hsb hgv)) ?_
        refine wG rfl rfl (g_assign rfl (.mk (v := .int _ _) rfl rfl)) ?_
        refine wG rfl rfl (g_assign rfl (.mk (v := .bool _) rfl rfl)) ?_
        refine WL.nil ?_
        (refine hK _ _ ?_; clear hK)
        refine WC.seq fun K hK => ?_
        refine WC.region rfl ?_
        refine wG rfl rfl (g_move rfl (.mk (v := .bool _) rfl rfl)) ?_
        refine wG rfl rfl (g_notF rfl (.mk rfl rfl)) ?_
        refine wG rfl rfl (g_move rfl (.mk (v := .bool _) rfl rfl)) ?_
        refine WL.wantG rfl rfl rfl rfl (WL1.give rfl (g_move rfl (.mk (v := .slice _ _ _) rfl rfl)) ?_)
        refine WL.wantG rfl rfl rfl rfl (WL1.give rfl (g_len rfl (.mk rfl rfl) rfl) ?_)
        refine WL.wantG rfl rfl rfl rfl (WL1.give rfl (g_move rfl (.mk (v := .int _ _) rfl rfl)) ?_)
        refine WL.wantG rfl rfl rfl rfl (WL1.give rfl (g_sub rfl (.mk rfl rfl) (.mk rfl rfl) hsub) ?_)
        refine WL.wantG rfl rfl rfl rfl (WL1.give rfl (g_lt rfl (.mk rfl rfl) (.mk rfl rfl) (decide_eq_true (by omega))) ?_)
        refine wG rfl rfl (g_pickT rfl (.mk rfl rfl) (.mk (v := .bool _) rfl rfl)) ?_
        refine WL.nil ?_
        (refine hK _ _ ?_; clear hK)
        refine WC.cond_true (.mk rfl rfl) ?_
        refine WC.until [] [] rfl (by kernel_rfl) ?_
        refine WB.takeP 0 rfl (by decide +kernel) (by decide +kernel) (by decide +kernel) (by decide +kernel) rfl rfl (.inr (Imp.sub (by first | ((repeat (first | exact List.nil_sublist _ | exact List.Sublist.refl _ | apply List.Sublist.cons_cons | apply List.Sublist.cons)); done) | fail))) (g_move rfl (.mk (v := .slice _ _ _) rfl rfl)) ?_
        refine WB.takeP 1 rfl (by decide +kernel) (by decide +kernel) (by decide +kernel) (by decide +kernel) rfl rfl (.inr (Imp.sub (by first | ((repeat (first | exact List.nil_sublist _ | exact List.Sublist.refl _ | apply List.Sublist.cons_cons | apply List.Sublist.cons)); done) | fail))) (g_move rfl (.mk (v := .int _ _) rfl rfl)) ?_
        refine WB.takeP 4 rfl (by decide +kernel) (by decide +kernel) (by decide +kernel) (by decide +kernel) rfl rfl (.inr (Imp.sub (by first | ((repeat (first | exact List.nil_sublist _ | exact List.Sublist.refl _ | apply List.Sublist.cons_cons | apply List.Sublist.cons)); done) | fail))) (g_move rfl (.mk (v := .slice _ _ _) rfl rfl)) ?_
        refine WB.takeP 5 rfl (by decide +kernel) (by decide +kernel) (by decide +kernel) (by decide +kernel) rfl rfl (.inr (Imp.sub (by first | ((repeat (first | exact List.nil_sublist _ | exact List.Sublist.refl _ | apply List.Sublist.cons_cons | apply List.Sublist.cons)); done) | fail))) (g_move rfl (.mk (v := .slice _ _ _) rfl rfl)) ?_
        refine WB.takeP 6 rfl (by decide +kernel) (by decide +kernel) (by decide +kernel) (by decide +kernel) rfl rfl (.inr (Imp.sub (by first | ((repeat (first | exact List.nil_sublist _ | exact List.Sublist.refl _ | apply List.Sublist.cons_cons | apply List.Sublist.cons)); done) | fail))) (g_move rfl (.mk (v := .int _ _) rfl rfl)) ?_
        refine WB.takeP 7 rfl (by decide +kernel) (by decide +kernel) (by decide +kernel) (by decide +kernel) rfl rfl (.inr (Imp.sub (by first | ((repeat (first | exact List.nil_sublist _ | exact List.Sublist.refl _ | apply List.Sublist.cons_cons | apply List.Sublist.cons)); done) | fail))) (g_indexAddr (sz := 8) rfl (.mk rfl rfl) (.mk rfl rfl) rfl rfl rfl (by omega) (fun _ _ => sl_some hs (by omega))) ?_
        refine WB.take 8 rfl (by decide +kernel) (by decide +kernel) (by decide +kernel) (by decide +kernel) rfl rfl (Imp.sub (by first | ((repeat (first | exact List.nil_sublist _ | exact List.Sublist.refl _ | apply List.Sublist.cons_cons | apply List.Sublist.cons)); done) | fail)) (g_loadA rfl (.mk rfl rfl) rfl (sz8 _) (rdr_sl hs (by omega) hgd)) ?_
        refine WB.two 2 9 (by decide +kernel) rfl rfl rfl rfl ?_ ?_
        refine WL1.lit (cs := [_]) elI rfl rfl rfl (.cons (.mk (v := .int _ _) rfl rfl) .nil) rfl (by first | (simp [Value.cells]; done) | fail) rfl rfl (fun b45 => ?_)
        refine WL.nil ?_
        refine ⟨.inr (Imp.sub (by first | ((repeat (first | exact List.nil_sublist _ | exact List.Sublist.refl _ | apply List.Sublist.cons_cons | apply List.Sublist.cons)); done) | fail)), ?_⟩
        refine WB.two 3 9 (by decide +kernel) rfl rfl rfl rfl ?_ ?_
        refine WL1.append elI rfl rfl (.mk rfl rfl) (.mk rfl rfl) (.tail (.head)) (fun w hw => Sl.of_vec hw (.head _)) (all1 rfl) (by unfold maxLen; omega) (by omega) (fun A46 c46 => ?_)
        refine WL.nil ?_
        refine ⟨.inr (Imp.sub (by first | ((repeat (first | exact List.nil_sublist _ | exact List.Sublist.refl _ | apply List.Sublist.cons_cons | apply List.Sublist.cons)); done) | fail)), ?_⟩
        refine WB.one 9 (by decide +kernel) rfl rfl ?_
        refine WL1.lit elK rfl rfl rfl (.cons (.mk (v := .agg _) rfl rfl) .nil) rfl (by first | (simp [Value.cells, Blk.len]; done) | fail) (List.append_nil _) rfl (fun b52 => ?_)
        refine WL.nil ?_
        refine ⟨.inr (Imp.sub (by first | ((repeat (first | exact List.nil_sublist _ | exact List.Sublist.refl _ | apply List.Sublist.cons_cons | apply List.Sublist.cons)); done) | fail)), ?_⟩
        refine WB.one 10 (by decide +kernel) rfl rfl ?_
        refine WL1.append elK rfl rfl (.mk rfl rfl) (.mk rfl rfl) (.tail (.tail (.tail (.head)))) (fun w hw => Sl.of_vec hw (.head _)) (Blk.one _) (by unfold maxLen; omega) (by omega) (fun A53 c53 => ?_)
        refine WL.nil ?_
        refine ⟨.inr (Imp.sub (by first | ((repeat (first | exact List.nil_sublist _ | exact List.Sublist.refl _ | apply List.Sublist.cons_cons | apply List.Sublist.cons)); done) | fail)), ?_⟩
        refine WB.takeP 11 rfl (by decide +kernel) (by decide +kernel) (by decide +kernel) (by decide +kernel) rfl rfl (.inr (Imp.sub (by first | ((repeat (first | exact List.nil_sublist _ | exact List.Sublist.refl _ | apply List.Sublist.cons_cons | apply List.Sublist.cons)); done) | fail))) (g_assign rfl (.mk (v := .slice _ _ _) rfl rfl)) ?_
        refine WB.takeP 12 rfl (by decide +kernel) (by decide +kernel) (by decide +kernel) (by decide +kernel) rfl rfl (.inr (Imp.sub (by first | ((repeat (first | exact List.nil_sublist _ | exact List.Sublist.refl _ | apply List.Sublist.cons_cons | apply List.Sublist.cons)); done) | fail))) (g_assign rfl (.mk (v := .slice _ _ _) rfl rfl)) ?_
        refine WB.done (by decide +kernel) ?_
        (refine hK _ _ ?_; clear hK)
        refine WC.region rfl ?_
        refine wG rfl rfl (g_add rfl (.mk rfl rfl) (.mk rfl rfl) (IntWalk.i64_in _ (by omega))) ?_
        refine wG rfl rfl (g_move rfl (.mk (v := .int _ _) rfl rfl)) ?_
        refine WL.nil ?_
        rotate_left
        refine WL1.lit elK rfl rfl rfl (.cons (.mk (v := .agg _) rfl rfl) .nil) rfl (by first | (simp [Value.cells, Blk.len]; done) | fail) (List.append_nil _) rfl (fun b52 => ?_)
        refine WL.nil ?_
        refine ⟨.inr (Imp.sub (by first | ((repeat (first | exact List.nil_sublist _ | exact List.Sublist.refl _ | apply List.Sublist.cons_cons | apply List.Sublist.cons)); done) | fail)), ?_⟩
        refine WB.one 3 (by decide +kernel) rfl rfl ?_
        refine WL1.append elI rfl rfl (.mk rfl rfl) (.mk rfl rfl) (.tail (.tail (.head))) (fun w hw => Sl.of_vec hw (.tail _ (.head _))) (all1 rfl) (by unfold maxLen; omega) (by omega) (fun A46 c46 => ?_)
        refine WL.nil ?_
        refine ⟨.inr (Imp.sub (by first | ((repeat (first | exact List.nil_sublist _ | exact List.Sublist.refl _ | apply List.Sublist.cons_cons | apply List.Sublist.cons)); done) | fail)), ?_⟩
        refine WB.one 10 (by decide +kernel) rfl rfl ?_
        refine WL1.append elK rfl rfl (.mk rfl rfl) (.mk rfl rfl) (.tail (.tail (.tail (.head)))) (fun w hw => Sl.of_vec hw (.tail _ (.head _))) (Blk.one _) (by unfold maxLen; omega) (by omega) (fun A53 c53 => ?_)
        refine WL.nil ?_
        refine ⟨.inr (Imp.sub (by first | ((repeat (first | exact List.nil_sublist _ | exact List.Sublist.refl _ | apply List.Sublist.cons_cons | apply List.Sublist.cons)); done) | fail)), ?_⟩
        refine WB.takeP 11 rfl (by decide +kernel) (by decide +kernel) (by decide +kernel) (by decide +kernel) rfl rfl (.inr (Imp.sub (by first | ((repeat (first | exact List.nil_sublist _ | exact List.Sublist.refl _ | apply List.Sublist.cons_cons | apply List.Sublist.cons)); done) | fail))) (g_assign rfl (.mk (v := .slice _ _ _) rfl rfl)) ?_
        refine WB.takeP 12 rfl (by decide +kernel) (by decide +kernel) (by decide +kernel) (by decide +kernel) rfl rfl (.inr (Imp.sub (by first | ((repeat (first | exact List.nil_sublist _ | exact List.Sublist.refl _ | apply List.Sublist.cons_cons | apply List.Sublist.cons)); done) | fail))) (g_assign rfl (.mk (v := .slice _ _ _) rfl rfl)) ?_
        refine WB.done (by decide +kernel) ?_
        (refine hK _ _ ?_; clear hK)
        refine WC.region rfl ?_
        refine wG rfl rfl (g_add rfl (.mk rfl rfl) (.mk rfl rfl) (IntWalk.i64_in _ (by omega))) ?_
        refine wG rfl rfl (g_move rfl (.mk (v := .int _ _) rfl rfl)) ?_
        refine WL.nil ?_
        rotate_left
        refine WL1.lit elK rfl rfl rfl (.cons (.mk (v := .agg _) rfl rfl) .nil) rfl (by first | (simp [Value.cells, Blk.len]; done) | fail) (List.append_nil _) rfl (fun b52 => ?_)
        refine WL.nil ?_
        refine ⟨.inr (Imp.sub (by first | ((repeat (first | exact List.nil_sublist _ | exact List.Sublist.refl _ | apply List.Sublist.cons_cons | apply List.Sublist.cons)); done) | fail)), ?_⟩
        refine WB.one 2 (by decide +kernel) rfl rfl ?_
        refine WL1.lit (cs := [_]) elI rfl rfl rfl (.cons (.mk (v := .int _ _) rfl rfl) .nil) rfl (by first | (simp [Value.cells]; done) | fail) rfl rfl (fun b45 => ?_)
        refine WL.nil ?_
        refine ⟨.inr (Imp.sub (by first | ((repeat (first | exact List.nil_sublist _ | exact List.Sublist.refl _ | apply List.Sublist.cons_cons | apply List.Sublist.cons)); done) | fail)), ?_⟩
        refine WB.one 3 (by decide +kernel) rfl rfl ?_
        refine WL1.append elI rfl rfl (.mk rfl rfl) (.mk rfl rfl) (.tail (.tail (.head))) (fun w hw => Sl.of_vec hw (.head _)) (all1 rfl) (by unfold maxLen; omega) (by omega) (fun A46 c46 => ?_)
        refine WL.nil ?_
        refine ⟨.inr (Imp.sub (by first | ((repeat (first | exact List.nil_sublist _ | exact List.Sublist.refl _ | apply List.Sublist.cons_cons | apply List.Sublist.cons)); done) | fail)), ?_⟩
        refine WB.one 10 (by decide +kernel) rfl rfl ?_
        refine WL1.append elK rfl rfl (.mk rfl rfl) (.mk rfl rfl) (.tail (.tail (.tail (.head)))) (fun w hw => Sl.of_vec hw (.tail _ (.tail _ (.head _)))) (Blk.one _) (by unfold maxLen; omega) (by omega) (fun A53 c53 => ?_)
        refine WL.nil ?_
        refine ⟨.inr (Imp.sub (by first | ((repeat (first | exact List.nil_sublist _ | exact List.Sublist.refl _ | apply List.Sublist.cons_cons | apply List.Sublist.cons)); done) | fail)), ?_⟩
        refine WB.takeP 11 rfl (by decide +kernel) (by decide +kernel) (by decide +kernel) (by decide +kernel) rfl rfl (.inr (Imp.sub (by first | ((repeat (first | exact List.nil_sublist _ | exact List.Sublist.refl _ | apply List.Sublist.cons_cons | apply List.Sublist.cons)); done) | fail))) (g_assign rfl (.mk (v := .slice _ _ _) rfl rfl)) ?_
        refine WB.takeP 12 rfl (by decide +kernel) (by decide +kernel) (by decide +kernel) (by decide +kernel) rfl rfl (.inr (Imp.sub (by first | ((repeat (first | exact List.nil_sublist _ | exact List.Sublist.refl _ | apply List.Sublist.cons_cons | apply List.Sublist.cons)); done) | fail))) (g_assign rfl (.mk (v := .slice _ _ _) rfl rfl)) ?_
        refine WB.done (by decide +kernel) ?_
        (refine hK _ _ ?_; clear hK)
        refine WC.region rfl ?_
        refine wG rfl rfl (g_add rfl (.mk rfl rfl) (.mk rfl rfl) (IntWalk.i64_in _ (by omega))) ?_
        refine wG rfl rfl (g_move rfl (.mk (v := .int _ _) rfl rfl)) ?_
        refine WL.nil ?_
        rotate_left
        all_goals refine ⟨i + 1, A46, c46, A53, c53, by rw [hst, hl1]; exact (by repeat (first | exact trivial | refine ⟨rfl, ?_⟩)), ?_, by omega, by omega⟩
        all_goals rw [hst, hl1, hmp, ← ldv_snoc, ← kvs_snoc]
        all_goals exact Imp.pick (by repeat (first | exact .head | apply Take.tail)) (Imp.pick (by repeat (first | exact .head | apply Take.tail)) (Imp.nil _))
      · have hst : gdT bs n (i + 1) = g := by rw [gdT_over (by rw [← hg]; exact hfl), hg]
        refine WC.seq fun K hK => ?_
        refine WC.region rfl ?_
        refine wG rfl rfl (g_lt rfl (.mk rfl rfl) (.mk rfl rfl) (decide_eq_true (by omega))) ?_
        refine WL.nil ?_
        (refine hK _ _ ?_; clear hK)
        refine WC.seq fun K hK => ?_
        refine WC.cond_true (.mk rfl rfl) ?_
        refine WC.skip ?_
        (refine hK _ _ ?_; clear hK)
        refine WC.seq fun K hK => ?_
        refine WC.block ?_
        refine WC.seq fun K hK => ?_
        refine WC.region rfl ?_
        refine wG rfl rfl (g_move rfl (.mk (v := .int _ _) rfl rfl)) ?_
        refine wG rfl rfl (g_indexAddr (sz := 1) rfl (.mk rfl rfl) (.mk rfl rfl) rfl rfl rfl (by omega) (fun _ _ => sl_some hsb (by omega))) ?_
        refine wG rfl rfl (g_load rfl (.mk rfl rfl) rfl (rd_sl hsb hgv)) ?_
        refine wG rfl rfl (g_assign rfl (.mk (v := .int _ _) rfl rfl)) ?_
        refine wG rfl rfl (g_assign rfl (.mk (v := .bool _) rfl rfl)) ?_
        refine WL.nil ?_
        (refine hK _ _ ?_; clear hK)
        refine WC.seq fun K hK => ?_
        refine WC.region rfl ?_
        refine wG rfl rfl (g_move rfl (.mk (v := .bool _) rfl rfl)) ?_
        refine wG rfl rfl (g_notF rfl (.mk rfl rfl)) ?_
        refine wG rfl rfl (g_move rfl (.mk (v := .bool _) rfl rfl)) ?_
        refine WL.wantG rfl rfl rfl rfl (WL1.give rfl (g_move rfl (.mk (v := .slice _ _ _) rfl rfl)) ?_)
        refine WL.wantG rfl rfl rfl rfl (WL1.give rfl (g_len rfl (.mk rfl rfl) rfl) ?_)
        refine WL.wantG rfl rfl rfl rfl (WL1.give rfl (g_move rfl (.mk (v := .int _ _) rfl rfl)) ?_)
        refine WL.wantG rfl rfl rfl rfl (WL1.give rfl (g_sub rfl (.mk rfl rfl) (.mk rfl rfl) hsub) ?_)
        refine WL.wantG rfl rfl rfl rfl (WL1.give rfl (g_lt rfl (.mk rfl rfl) (.mk rfl rfl) (decide_eq_false (by omega))) ?_)
        refine wG rfl rfl (g_pickT rfl (.mk rfl rfl) (.mk (v := .bool _) rfl rfl)) ?_
        refine WL.nil ?_
        (refine hK _ _ ?_; clear hK)
        refine WC.cond_false (.mk rfl rfl) ?_
        refine WC.skip ?_
        (refine hK _ _ ?_; clear hK)
        refine WC.region rfl ?_
        refine wG rfl rfl (g_add rfl (.mk rfl rfl) (.mk rfl rfl) (IntWalk.i64_in _ (by omega))) ?_
        refine wG rfl rfl (g_move rfl (.mk (v := .int _ _) rfl rfl)) ?_
        refine WL.nil ?_
        exact ⟨i + 1, F, fc, Y, yc, by rw [hst]; exact (by repeat (first | exact trivial | refine ⟨rfl, ?_⟩)), by rw [hst]; exact .refl _, by omega, by omega⟩
  · obtain rfl : i = m := by omega
    have hcl := cnt_le (bs := bs) i
    by_cases hfl : g.length < n
    · refine WC.seq fun K hK => ?_
      refine WC.region rfl ?_
      refine wG rfl rfl (g_lt rfl (.mk rfl rfl) (.mk rfl rfl) (decide_eq_false (by omega))) ?_
      refine WL.nil ?_
      (refine hK _ _ ?_; clear hK)
      refine WC.seq fun K hK => ?_
      refine WC.cond_false (.mk rfl rfl) ?_
      refine WC.exit ?_
      (clear hK; refine hK _ _ ?_; clear hK)
      refine WC.seq fun K hK => ?_
      refine WC.seq fun K hK => ?_
      refine WC.region rfl ?_
      refine wG rfl rfl (g_move rfl (.mk (v := .slice _ _ _) rfl rfl)) ?_
      refine wG rfl rfl (g_len rfl (.mk rfl rfl) rfl) ?_
      refine wG rfl rfl (g_move rfl (.mk (v := .int _ _) rfl rfl)) ?_
      refine wG rfl rfl (g_sub rfl (.mk rfl rfl) (.mk rfl rfl) hsub) ?_
      refine wG rfl rfl (g_lt rfl (.mk rfl rfl) (.mk rfl rfl) (decide_eq_true (by omega))) ?_
      refine WL.nil ?_
      (refine hK _ _ ?_; clear hK)
      refine WC.cond_true (.mk rfl rfl) ?_
      refine WC.seq fun K hK => ?_
      refine WC.region rfl ?_
      refine wG rfl rfl (g_assign rfl (.mk (v := .slice _ _ _) rfl rfl)) ?_
      refine wG rfl rfl (g_assign rfl (.mk (v := .int _ _) rfl rfl)) ?_
      refine WL.nil ?_
      (refine hK _ _ ?_; clear hK)
      refine WC.ret ?_
      exact fun w' hw' => ⟨_, _, rfl, hw', .inl ⟨by omega, rfl⟩⟩
    · have hc3 : cnt bs (n + 3) ≤ 3 := by rw [← hmn]; omega
      have hgn : g.length = n := by omega
      have hw := gdT_wfr hc3
      rw [← hmn, ← hg] at hw
      have hcln : ∀ w', Below w.heap.size w w' → Calls Try.prog 27 #[.slice A i c] w' fun e w2 => ∃ v' M, e = .returned v' ∧ H w' M w2 ∧ ∃ A c, v' = .slice A i c ∧ M = [vec A i c 25 8 (kvs (decP ps bs n 0))] := fun w' hb => by
        have := clone_n (.slice A i c) ps w' (by rw [hpl]; exact hs.below hb) (by omega) (by omega)
        rwa [hpl, ← decP_zero (bs := bs) (by omega : ps.length = n + 3)] at this
      rw [hgn]
      refine WC.seq fun K hK => ?_
      refine WC.region rfl ?_
      refine wG rfl rfl (g_lt rfl (.mk rfl rfl) (.mk rfl rfl) (decide_eq_false (by omega))) ?_
      refine WL.nil ?_
      (refine hK _ _ ?_; clear hK)
      refine WC.seq fun K hK => ?_
      refine WC.cond_false (.mk rfl rfl) ?_
      refine WC.exit ?_
      (clear hK; refine hK _ _ ?_; clear hK)
      refine WC.seq fun K hK => ?_
      refine WC.seq fun K hK => ?_
      refine WC.region rfl ?_
      refine wG rfl rfl (g_move rfl (.mk (v := .slice _ _ _) rfl rfl)) ?_
      refine wG rfl rfl (g_len rfl (.mk rfl rfl) rfl) ?_
      refine wG rfl rfl (g_move rfl (.mk (v := .int _ _) rfl rfl)) ?_
      refine wG rfl rfl (g_sub rfl (.mk rfl rfl) (.mk rfl rfl) hsub) ?_
      refine wG rfl rfl (g_lt rfl (.mk rfl rfl) (.mk rfl rfl) (decide_eq_false (by omega))) ?_
      refine WL.nil ?_
      (refine hK _ _ ?_; clear hK)
      refine WC.cond_false (.mk rfl rfl) ?_
      refine WC.skip ?_
      (refine hK _ _ ?_; clear hK)
      refine WC.seq fun K hK => ?_
      refine WC.region rfl ?_
      refine wG rfl rfl (g_move rfl (.mk (v := .slice _ _ _) rfl rfl)) ?_
      (refine WL.want rfl (WL1.callN rfl rfl rfl (.cons (.mk (v := .slice _ _ _) rfl rfl) .nil) (fun w hw => hcln w hw.1) ?_); rintro _ _ ⟨Ac, cc, rfl, rfl⟩)
      refine wG rfl rfl (g_assign rfl (.mk (v := .slice _ _ _) rfl rfl)) ?_
      refine WL.nil ?_
      (refine hK _ _ ?_; clear hK)
      refine WC.seq fun K hK => ?_
      refine WC.seq fun K hK => ?_
      refine WC.region rfl ?_
      refine wG rfl rfl (g_move rfl (.mk (v := .slice _ _ _) rfl rfl)) ?_
      refine wG rfl rfl (g_len rfl (.mk rfl rfl) rfl) ?_
      refine wG rfl rfl (g_move rfl (.mk (v := .int _ _) rfl rfl)) ?_
      refine WL.nil ?_
      (refine hK _ _ ?_; clear hK)
      refine WC.block ?_
      refine WC.loopF (fun j : Nat => [(64, iv j), (6, iv i), (7, .slice F n fc), (8, .slice Y n yc), (11, .slice Ac i cc), (62, .slice B i d), (63, iv i), (4, .slice none 0 0), (5, iv 0)]) (fun j => [vec Ac i cc 25 8 (kvs (decP ps bs n j)), vec F n fc 3 1 (ldv g), vec Y n yc 25 8 (kvs (g.map (nth ps)))]) (fun j => j ≤ i) (fun j => i - j) 0 (by repeat (first | exact trivial | refine ⟨rfl, ?_⟩)) (.refl _) (by omega) ?_
      intro j V hj
      have hdl := decP_len ps bs n j
      have hkl : (kvs (decP ps bs n j)).length = i * 8 := by rw [kvs_len, hdl, hmn]
      by_cases hlt2 : j < i
      · have hgv := bls_get (l := bs) (k := j) (by omega)
        cases hbj : nth bs j with
        | false =>
          rw [hbj] at hgv
          refine WC.seq fun K hK => ?_
          refine WC.region rfl ?_
          refine wG rfl rfl (g_lt rfl (.mk rfl rfl) (.mk rfl rfl) (decide_eq_true (by omega))) ?_
          refine WL.nil ?_
          (refine hK _ _ ?_; clear hK)
          refine WC.seq fun K hK => ?_
          refine WC.cond_true (.mk rfl rfl) ?_
          refine WC.skip ?_
          (refine hK _ _ ?_; clear hK)
          refine WC.seq fun K hK => ?_
          refine WC.block ?_
          refine WC.seq fun K hK => ?_
          refine WC.region rfl ?_
          refine wG rfl rfl (g_move rfl (.mk (v := .int _ _) rfl rfl)) ?_
          refine wG rfl rfl (g_indexAddr (sz := 1) rfl (.mk rfl rfl) (.mk rfl rfl) rfl rfl rfl (by omega) (fun _ _ => sl_some hsb (by omega))) ?_
          refine wG rfl rfl (g_load rfl (.mk rfl rfl) rfl (rd_sl hsb hgv)) ?_
          refine wG rfl rfl (g_assign rfl (.mk (v := .int _ _) rfl rfl)) ?_
          refine wG rfl rfl (g_assign rfl (.mk (v := .bool _) rfl rfl)) ?_
          refine WL.nil ?_
          (refine hK _ _ ?_; clear hK)
          refine WC.seq fun K hK => ?_
          refine WC.seq fun K hK => ?_
          refine WC.region rfl ?_
          refine wG rfl rfl (g_move rfl (.mk (v := .bool _) rfl rfl)) ?_
          refine wG rfl rfl (g_notF rfl (.mk rfl rfl)) ?_
          refine WL.nil ?_
          (refine hK _ _ ?_; clear hK)
          refine WC.cond_true (.mk rfl rfl) ?_
          refine WC.exit ?_
          (clear hK; refine hK _ _ ?_; clear hK)
          refine WC.region rfl ?_
          refine wG rfl rfl (g_add rfl (.mk rfl rfl) (.mk rfl rfl) (IntWalk.i64_in _ (by omega))) ?_
          refine wG rfl rfl (g_move rfl (.mk (v := .int _ _) rfl rfl)) ?_
          refine WL.nil ?_
          exact ⟨j + 1, (by repeat (first | exact trivial | refine ⟨rfl, ?_⟩)), by rw [decP_skip (by rw [hbj]; exact Bool.false_ne_true)]; exact .refl _, by omega, by omega⟩
        | true =>
          rw [hbj] at hgv
          have hwt : ∀ w', Sl w' 1 (.slice F n fc) n (ldv g) → Calls Try.prog 11 #[iv i, .slice F n fc, iv j] w' fun e w2 => ∃ v' M, e = .returned v' ∧ H w' M w2 ∧ ∃ A c, v' = .tuple #[.slice A n c, iv 0] ∧ M = [vec A n c 5 1 (bvs (wts n g j))] := fun w' h => weights_n _ i n j g w' (by rw [hgn]; exact h) hmn h1 h2 hw hlt2
          have hwl := wts_len n g j
          have hcb : ∀ (v1 : Value) (w' : World), Sl w' 1 v1 n (bvs (wts n g j)) → Sl w' 8 (.slice Y n yc) n (kvs (g.map (nth ps))) → Calls Try.prog 12 #[v1, .slice Y n yc] w' fun e w2 => e = .returned (.tuple #[kv (comb (wts n g j) (g.map (nth ps)) n), iv 0]) ∧ Below w'.heap.size w' w2 := fun v1 w' q1 q2 => by
            have := combine_e v1 (.slice Y n yc) (wts n g j) (g.map (nth ps)) w' (by rw [hwl]; exact q1) (by rw [hml, hgn]; exact q2) (by rw [hwl, hml, hgn]) (by omega)
            rwa [hwl] at this
          have hset : (decP ps bs n j).set j (comb (wts n g j) (g.map (nth ps)) n) = decP ps bs n (j + 1) := by
            have := decP_set (ps := ps) (bs := bs) (n := n) (j := j) (by omega) hbj
            rwa [← hmn, ← hg] at this
          have hsp : ∀ i0 v0, i0 = j * 8 → v0 = (comb (wts n g j) (g.map (nth ps)) n).cells → spl (kvs (decP ps bs n j)) i0 v0 = kvs (decP ps bs n (j + 1)) := fun i0 v0 h h' => (kvs_spl (by omega) h h').trans (congrArg kvs hset)
          refine WC.seq fun K hK => ?_
          refine WC.region rfl ?_
          refine wG rfl rfl (g_lt rfl (.mk rfl rfl) (.mk rfl rfl) (decide_eq_true (by omega))) ?_
          refine WL.nil ?_
          (refine hK _ _ ?_; clear hK)
          refine WC.seq fun K hK => ?_
          refine WC.cond_true (.mk rfl rfl) ?_
          refine WC.skip ?_
          (refine hK _ _ ?_; clear hK)
          refine WC.seq fun K hK => ?_
          refine WC.block ?_
          refine WC.seq fun K hK => ?_
          refine WC.region rfl ?_
          refine wG rfl rfl (g_move rfl (.mk (v := .int _ _) rfl rfl)) ?_
          refine wG rfl rfl (g_indexAddr (sz := 1) rfl (.mk rfl rfl) (.mk rfl rfl) rfl rfl rfl (by omega) (fun _ _ => sl_some hsb (by omega))) ?_
          refine wG rfl rfl (g_load rfl (.mk rfl rfl) rfl (rd_sl hsb hgv)) ?_
          refine wG rfl rfl (g_assign rfl (.mk (v := .int _ _) rfl rfl)) ?_
          refine wG rfl rfl (g_assign rfl (.mk (v := .bool _) rfl rfl)) ?_
          refine WL.nil ?_
          (refine hK _ _ ?_; clear hK)
          refine WC.seq fun K hK => ?_
          refine WC.seq fun K hK => ?_
          refine WC.region rfl ?_
          refine wG rfl rfl (g_move rfl (.mk (v := .bool _) rfl rfl)) ?_
          refine wG rfl rfl (g_notT rfl (.mk rfl rfl)) ?_
          refine WL.nil ?_
          (refine hK _ _ ?_; clear hK)
          refine WC.cond_false (.mk rfl rfl) ?_
          refine WC.skip ?_
          (refine hK _ _ ?_; clear hK)
          refine WC.seq fun K hK => ?_
          refine WC.region rfl ?_
          refine wG rfl rfl (g_move rfl (.mk (v := .int _ _) rfl rfl)) ?_
          refine wG rfl rfl (g_move rfl (.mk (v := .slice _ _ _) rfl rfl)) ?_
          refine wG rfl rfl (g_move rfl (.mk (v := .int _ _) rfl rfl)) ?_
          (refine WL.want rfl (WL1.callN rfl rfl rfl (.cons (.mk (v := .int _ _) rfl rfl) (.cons (.mk (v := .slice _ _ _) rfl rfl) (.cons (.mk (v := .int _ _) rfl rfl) .nil))) (fun w hw => hwt w (Sl.of_vec hw (by repeat (first | exact .head _ | apply List.Mem.tail)))) ?_); rintro _ _ ⟨Aw, cw, rfl, rfl⟩)
          refine wG rfl rfl (g_move rfl (.mk (v := .tuple _) rfl rfl)) ?_
          refine wG rfl rfl (g_extract rfl (.mk rfl rfl) rfl) ?_
          refine wG rfl rfl (g_extract rfl (.mk rfl rfl) rfl) ?_
          refine wG rfl rfl (g_assign rfl (.mk (v := .slice _ _ _) rfl rfl)) ?_
          refine wG rfl rfl (g_assign rfl (.mk (v := .int _ _) rfl rfl)) ?_
          refine WL.nil ?_
          (refine hK _ _ ?_; clear hK)
          refine WC.seq fun K hK => ?_
          refine WC.seq fun K hK => ?_
          refine WC.region rfl ?_
          refine wG rfl rfl (g_move rfl (.mk (v := .int _ _) rfl rfl)) ?_
          refine wG rfl rfl (g_ne rfl (.mk rfl rfl) (.mk rfl rfl) (decide_eq_false (by omega))) ?_
          refine WL.nil ?_
          (refine hK _ _ ?_; clear hK)
          refine WC.cond_false (.mk rfl rfl) ?_
          refine WC.skip ?_
          (refine hK _ _ ?_; clear hK)
          refine WC.region rfl ?_
          refine wG rfl rfl (g_move rfl (.mk (v := .slice _ _ _) rfl rfl)) ?_
          refine wG rfl rfl (g_move rfl (.mk (v := .int _ _) rfl rfl)) ?_
          refine wG rfl rfl (g_move rfl (.mk (v := .slice _ _ _) rfl rfl)) ?_
          refine wG rfl rfl (g_move rfl (.mk (v := .slice _ _ _) rfl rfl)) ?_
          refine WL.want rfl (WL1.callP rfl rfl rfl (.cons (.mk (v := .slice _ _ _) rfl rfl) (.cons (.mk (v := .slice _ _ _) rfl rfl) .nil)) (fun w hw => hcb _ w (Sl.of_vec hw (by repeat (first | exact .head _ | apply List.Mem.tail))) (Sl.of_vec hw (by repeat (first | exact .head _ | apply List.Mem.tail)))) ?_)
          refine wG rfl rfl (g_move rfl (.mk (v := .tuple _) rfl rfl)) ?_
          refine wG rfl rfl (g_extract rfl (.mk rfl rfl) rfl) ?_
          refine wG rfl rfl (g_extract rfl (.mk rfl rfl) rfl) ?_
          refine wG rfl rfl (g_indexAddr (sz := 8) rfl (.mk rfl rfl) (.mk rfl rfl) rfl rfl rfl (by omega) (fun w hw => vec_some hw (.tail _ (.head _)) (by omega))) ?_
          refine WL.want rfl (WL1.storeVA rfl rfl (.mk rfl rfl) (.mk rfl rfl) (sz8 _) (Blk.one _) (by first | decide | omega | exact Nat.le_of_ble_eq_true rfl | (simp; done) | (simp; omega) | (rw [Blk.len]; omega)) (by first | omega | (rw [Blk.len]; omega) | (simp; done) | (simp; omega)) (.tail (.head)) ?_)
          refine WL.nil ?_
          (refine hK _ _ ?_; clear hK)
          refine WC.region rfl ?_
          refine wG rfl rfl (g_add rfl (.mk rfl rfl) (.mk rfl rfl) (IntWalk.i64_in _ (by omega))) ?_
          refine wG rfl rfl (g_move rfl (.mk (v := .int _ _) rfl rfl)) ?_
          refine WL.nil ?_
          refine ⟨j + 1, (by repeat (first | exact trivial | refine ⟨rfl, ?_⟩)), ?_, by omega, by omega⟩
          rw [hsp]
          · exact Imp.pick (by repeat (first | exact .head | apply Take.tail)) (Imp.pick (by repeat (first | exact .head | apply Take.tail)) (Imp.pick (by repeat (first | exact .head | apply Take.tail)) (Imp.nil _)))
          · omega
          · rfl
      · obtain rfl : j = i := by omega
        have hfin : decP ps bs n j = decL ps bs n := by rw [decL, hmn]
        rw [hfin]
        refine WC.seq fun K hK => ?_
        refine WC.region rfl ?_
        refine wG rfl rfl (g_lt rfl (.mk rfl rfl) (.mk rfl rfl) (decide_eq_false (by omega))) ?_
        refine WL.nil ?_
        (refine hK _ _ ?_; clear hK)
        refine WC.seq fun K hK => ?_
        refine WC.cond_false (.mk rfl rfl) ?_
        refine WC.exit ?_
        (clear hK; refine hK _ _ ?_; clear hK)
        refine WC.seq fun K hK => ?_
        refine WC.region rfl ?_
        refine wG rfl rfl (g_move rfl (.mk (v := .slice _ _ _) rfl rfl)) ?_
        refine wG rfl rfl (g_assign rfl (.mk (v := .slice _ _ _) rfl rfl)) ?_
        refine wG rfl rfl (g_assign rfl (.mk (v := .int _ _) rfl rfl)) ?_
        refine WL.nil ?_
        (refine hK _ _ ?_; clear hK)
        refine WC.ret ?_
        exact fun w' hw' => ⟨_, _, rfl, hw'.sub (.cons_cons _ (.cons _ (.cons _ .slnil))), .inr ⟨by rw [hmn]; exact hc3, Ac, cc, rfl, rfl⟩⟩
end Go.Proofs.Ytdcijljfgcjelaa
namespace Go.Proofs.Ytdcijljfgcjelaa
set_option maxRecDepth 20000
open Go.RowKit
attribute [local irreducible] Calls
def mksP (m : Nat) (l : List G) (i : Nat) : List Bool := (List.range m).map fun q => (List.range i).any fun j => decide ((nth l j).val < 240 ∧ (nth l j).val % m = q)
end Go.Proofs.Ytdcijljfgcjelaa
namespace Go.Proofs.Ytdcijljfgcjelaa
set_option maxRecDepth 20000
open Go.RowKit
attribute [local irreducible] Calls
def locV (n : Nat) (s0 s1 s2 : Blk) : Int × Int :=
  if s0 = 0 ∧ s1 = 0 ∧ s2 = 0 then (0, 9)
  else if s1 = 0 ∧ s2 = 0 then (n, 0)
  else if s0 = 0 ∧ s2 = 0 then ((n + 1 : Nat), 0)
  else if s0 = 0 ∧ s1 = 0 then ((n + 2 : Nat), 0)
  else if s0 = 0 then (0, 12)
  else match fnd (fun i => decide (s1 = gpow 2 i * s0 ∧ s2 = gpow 2 (2 * i) * s0)) n with
    | some i => (i, 0)
    | none => (0, 12)
end Go.Proofs.Ytdcijljfgcjelaa
namespace Go.Proofs.Ytdcijljfgcjelaa
set_option maxRecDepth 20000
open Go.RowKit
def Err1 (n : Nat) (s : Nat → Blk) (k : Nat) : Prop := ∃ e : Blk, e ≠ 0 ∧ ∀ q, q < 3 → s q = col n q k * e
theorem other {n a b : Nat} (h1 : 1 ≤ n) (_ha : a < n + 3) (_hb : b < n + 3) : ∃ c, c < n + 3 ∧ a ≠ c ∧ b ≠ c := by
  by_cases h0 : a ≠ 0 ∧ b ≠ 0
  · exact ⟨0, by omega, h0.1, h0.2⟩
  · by_cases h2 : a ≠ 1 ∧ b ≠ 1
    · exact ⟨1, by omega, h2.1, h2.2⟩
    · exact ⟨2, by omega, by omega, by omega⟩
def oneB (m i : Nat) : List Bool := (List.replicate m false).set i true
end Go.Proofs.Ytdcijljfgcjelaa
namespace Go.Proofs.Ytdcijljfgcjelaa
set_option maxRecDepth 20000
open Go.RowKit
end Go.Proofs.Ytdcijljfgcjelaa
namespace Go.Proofs.Ytdcijljfgcjelaa
set_option maxRecDepth 20000
open Go.RowKit
def gOf (k : Nat) : G := ⟨k % 256, Nat.mod_lt _ (by omega)⟩
def gnz (a : G) : Bool := decide (a ≠ 0)
end Go.Proofs.Ytdcijljfgcjelaa
namespace Go.Proofs.Ytdcijljfgcjelaa
set_option maxRecDepth 20000
open Go.RowKit
attribute [local irreducible] Calls
def rowG (n p : Nat) : List G := (List.range n).map (gen n p)
def rowGP (n p i : Nat) : List G := (List.range n).map fun q => if q < i then gen n p q else 0
end Go.Proofs.Ytdcijljfgcjelaa
namespace Go.Proofs.Ytdcijljfgcjelaa
set_option maxRecDepth 20000
open Go.RowKit
attribute [local irreducible] Calls
theorem decode_k {vp vb : Value} {ps qs : List Blk} {bs : List Bool} {n m : Nat} {w : World} (hm : m = n + 3) (h1 : 1 ≤ n) (h2 : n ≤ 13) (hpl : ps.length = n + 3) (hbl : bs.length = n + 3) (hc : cnt bs (n + 3) ≤ 3) (hd : decL ps bs n = qs) (hp : Sl w 8 vp m (kvs ps)) (hb : Sl w 1 vb m (bls bs)) :
    Calls Try.prog 8 #[vp, vb] w fun e w' => ∃ v' M, e = .returned v' ∧ H w M w' ∧ ∃ A c, v' = .tuple #[.slice A m c, iv 0] ∧ M = [vec A m c 25 8 (kvs qs)] := by
  subst hm; subst hd
  refine (decode_c vp vb ps bs n w (by rw [hpl]; exact hp) (by rw [hbl]; exact hb) h1 h2 hpl hbl).mono fun e w' ⟨v', M, he, hM, h⟩ => ⟨v', M, he, hM, ?_⟩
  rcases h with ⟨h, _⟩ | ⟨_, h⟩
  · omega
  · exact h
end Go.Proofs.Ytdcijljfgcjelaa
namespace Go.Proofs.Ytdcijljfgcjelaa
set_option maxRecDepth 20000
open Go.RowKit
attribute [local irreducible] Calls
theorem ex_enc : enc [lb 1, lb (gn 2)] = [lb (gn 3), lb (gn 5), lb (gn 9)] := by decide +kernel
theorem ex_dec25 : decL [lb 0, lb 0, lb (gn 3), lb (gn 5), lb (gn 9)] [true, true, false, false, false] 2 = [lb 1, lb (gn 2), lb (gn 3), lb (gn 5), lb (gn 9)] := by decide +kernel
theorem ex_cmp : Cmp 5 4 := cmpB_spec (by decide +kernel)
theorem ex_lay : Lay 5 4 4 3 (cmb 5 4 [] 0) 1 0 := ⟨dsgB_spec (by decide +kernel), balB_spec (by decide +kernel), by decide, by decide, by decide, by decide, by decide, by decide +kernel, by decide +kernel, by decide⟩
theorem encode_k {v : Value} {n : Nat} {ds qs : List Blk} {w : World} (hn : ds.length = n) (h1 : 1 ≤ n) (h2 : n ≤ 13) (hq : enc ds = qs) (hv : Sl w 8 v n (kvs ds)) : Calls Try.prog 6 #[v] w fun e w' => ∃ v' M, e = .returned v' ∧ H w M w' ∧
    ∃ b, v' = .tuple #[.slice (some ⟨b, 0, none⟩) 3 3, iv 0] ∧ M = [vec (some ⟨b, 0, none⟩) 3 3 25 8 (kvs qs)] := by
  subst hn; subst hq
  exact encode_n v ds w hv h1 h2
set_option maxHeartbeats 4000000 in
theorem awake_top (w : World) : Calls Try.prog 5 #[] w fun e w' => e = .returned (.bool true) ∧ Below w.heap.size w w' := by
  have hch : ∀ w, Calls Try.prog 21 #[iv 5, iv 4] w fun e w' => ∃ u M, e = .returned u ∧ H w M w' ∧ ∃ A c rs, rs.length = 5 ∧ Lay 5 4 4 3 (ils rs) 1 0 ∧ u = .tuple #[.agg #[iv 5, .slice A rs.length c], iv 0] ∧ M = dsgA A c rs := fun w =>
    (choose_n 5 4 w ex_cmp (by decide) (by decide)).mono fun e w' ⟨u, M, he, hH, A, c, rs, hrs, hu, hM⟩ => ⟨u, M, he, hH, A, c, rs, by have := congrArg List.length hrs; rw [List.length_map] at this; rw [this]; decide +kernel, by rw [hrs]; exact ex_lay, hu, hM⟩
  refine calls_wc (args := []) [0] [] Try.func5 rfl Try.ntmps5 rfl rfl rfl rfl (H.refl _) ?_
  have E2 : EqV Try.prog 25 (kv (lb (gn 2))) (kv (lb (gn 2))) true := blk_eq rfl
  have r0 : ∀ j u, (lb (gn 3)).cells[j]? = some u → (kvs [lb (gn 3), lb (gn 5), lb (gn 9)])[0 * 8 + j]? = some u := fun j u h => flat_row (l := [lb (gn 3), lb (gn 5), lb (gn 9)]) blk8 (by decide) j u h
  have r1 : ∀ j u, (lb (gn 5)).cells[j]? = some u → (kvs [lb (gn 3), lb (gn 5), lb (gn 9)])[1 * 8 + j]? = some u := fun j u h => flat_row (l := [lb (gn 3), lb (gn 5), lb (gn 9)]) blk8 (by decide) j u h
  have r2 : ∀ j u, (lb (gn 9)).cells[j]? = some u → (kvs [lb (gn 3), lb (gn 5), lb (gn 9)])[2 * 8 + j]? = some u := fun j u h => flat_row (l := [lb (gn 3), lb (gn 5), lb (gn 9)]) blk8 (by decide) j u h
  have r3 : ∀ j u, (lb (gn 2)).cells[j]? = some u → (kvs [lb 1, lb (gn 2), lb (gn 3), lb (gn 5), lb (gn 9)])[1 * 8 + j]? = some u := fun j u h => flat_row (l := [lb 1, lb (gn 2), lb (gn 3), lb (gn 5), lb (gn 9)]) blk8 (by decide) j u h
  refine WC.seq fun K hK => ?_
  refine WC.region rfl ?_
  refine wG rfl rfl (g_assign rfl (.mk (v := .bool _) rfl rfl)) ?_
  refine WL.nil ?_
  (refine hK _ _ ?_; clear hK)
  refine WC.seq fun K hK => ?_
  refine WC.region rfl ?_
  refine wG rfl rfl (g_buildArr (cs := [_, _, _, _, _, _, _, _]) rfl rfl rfl rfl rfl (.cons (.mk (v := .int _ _) rfl rfl) .nil) rfl rfl rfl) ?_
  refine wG rfl rfl (g_buildArr (cs := [_, _, _, _, _, _, _, _]) rfl rfl rfl rfl rfl (.cons (.mk (v := .int _ _) rfl rfl) .nil) rfl rfl rfl) ?_
  refine WL.want rfl (WL1.lit (cs := [_, _, _, _, _, _, _, _, _, _, _, _, _, _, _, _]) elK rfl rfl rfl (.cons (.mk (v := .agg _) rfl rfl) (.cons (.mk (v := .agg _) rfl rfl) .nil)) rfl (by first | (simp [Value.cells]; done) | fail) rfl rfl (fun b10 => ?_))
  (refine WL.want rfl (WL1.callN rfl rfl rfl (.cons (.mk (v := .slice _ _ _) rfl rfl) .nil) (fun w hw => encode_k (n := 2) (ds := [lb 1, lb (gn 2)]) rfl (by omega) (by omega) ex_enc (Sl.of_vec hw (.head _))) ?_); rintro _ _ ⟨bp, rfl, rfl⟩)
  refine wG rfl rfl (g_move rfl (.mk (v := .tuple _) rfl rfl)) ?_
  refine wG rfl rfl (g_extract rfl (.mk rfl rfl) rfl) ?_
  refine wG rfl rfl (g_extract rfl (.mk rfl rfl) rfl) ?_
  refine wG rfl rfl (g_assign rfl (.mk (v := .slice _ _ _) rfl rfl)) ?_
  refine wG rfl rfl (g_assign rfl (.mk (v := .int _ _) rfl rfl)) ?_
  refine WL.nil ?_
  (refine hK _ _ ?_; clear hK)
  refine WC.seq fun K hK => ?_
  refine WC.seq fun K hK => ?_
  refine WC.region rfl ?_
  refine wG rfl rfl (g_move rfl (.mk (v := .int _ _) rfl rfl)) ?_
  refine wG rfl rfl (g_ne rfl (.mk rfl rfl) (.mk rfl rfl) (decide_eq_false (by omega))) ?_
  refine wG rfl rfl (g_move rfl (.mk (v := .bool _) rfl rfl)) ?_
  refine WL.wantG rfl rfl rfl rfl (WL1.give rfl (g_move rfl (.mk (v := .slice _ _ _) rfl rfl)) ?_)
  refine WL.wantG rfl rfl rfl rfl (WL1.give rfl (g_len rfl (.mk rfl rfl) rfl) ?_)
  refine WL.wantG rfl rfl rfl rfl (WL1.give rfl (g_ne rfl (.mk rfl rfl) (.mk rfl rfl) (decide_eq_false (by omega))) ?_)
  refine wG rfl rfl (g_pickF rfl (.mk rfl rfl) (.mk (v := .bool _) rfl rfl)) ?_
  refine WL.nil ?_
  (refine hK _ _ ?_; clear hK)
  refine WC.cond_false (.mk rfl rfl) ?_
  refine WC.skip ?_
  (refine hK _ _ ?_; clear hK)
  refine WC.seq fun K hK => ?_
  refine WC.held [vec (some ⟨bp, 0, none⟩) 3 3 25 8 (kvs [lb (gn 3), lb (gn 5), lb (gn 9)])] rfl (by kernel_rfl) ?_
  refine WH.take 0 rfl (by decide +kernel) (by decide +kernel) (by decide +kernel) rfl rfl (Imp.sub (by first | ((repeat (first | exact List.nil_sublist _ | exact List.Sublist.refl _ | apply List.Sublist.cons_cons | apply List.Sublist.cons)); done) | fail)) (g_buildArr (cs := [_, _, _, _, _, _, _, _]) rfl rfl rfl rfl rfl .nil rfl rfl rfl) ?_
  refine WH.take 1 rfl (by decide +kernel) (by decide +kernel) (by decide +kernel) rfl rfl (Imp.sub (by first | ((repeat (first | exact List.nil_sublist _ | exact List.Sublist.refl _ | apply List.Sublist.cons_cons | apply List.Sublist.cons)); done) | fail)) (g_buildArr (cs := [_, _, _, _, _, _, _, _]) rfl rfl rfl rfl rfl .nil rfl rfl rfl) ?_
  refine WH.take 2 rfl (by decide +kernel) (by decide +kernel) (by decide +kernel) rfl rfl (Imp.sub (by first | ((repeat (first | exact List.nil_sublist _ | exact List.Sublist.refl _ | apply List.Sublist.cons_cons | apply List.Sublist.cons)); done) | fail)) (g_move rfl (.mk (v := .slice _ _ _) rfl rfl)) ?_
  refine WH.take 3 rfl (by decide +kernel) (by decide +kernel) (by decide +kernel) rfl rfl (Imp.sub (by first | ((repeat (first | exact List.nil_sublist _ | exact List.Sublist.refl _ | apply List.Sublist.cons_cons | apply List.Sublist.cons)); done) | fail)) (g_indexAddr (sz := 8) rfl (.mk rfl rfl) (.mk rfl rfl) rfl rfl (show _ = ((0 : Nat) : Int) from rfl) (by omega) (fun _ _ => rfl)) ?_
  refine WH.take 4 rfl (by decide +kernel) (by decide +kernel) (by decide +kernel) rfl rfl (Imp.sub (by first | ((repeat (first | exact List.nil_sublist _ | exact List.Sublist.refl _ | apply List.Sublist.cons_cons | apply List.Sublist.cons)); done) | fail)) (g_loadA rfl (.mk rfl rfl) rfl rfl (rdr_vec (cs := (lb (gn 3)).cells) (by first | ((repeat (first | exact .head _ | apply List.Mem.tail)); done) | fail) (by omega) r0)) ?_
  refine WH.take 5 rfl (by decide +kernel) (by decide +kernel) (by decide +kernel) rfl rfl (Imp.sub (by first | ((repeat (first | exact List.nil_sublist _ | exact List.Sublist.refl _ | apply List.Sublist.cons_cons | apply List.Sublist.cons)); done) | fail)) (g_move rfl (.mk (v := .slice _ _ _) rfl rfl)) ?_
  refine WH.take 6 rfl (by decide +kernel) (by decide +kernel) (by decide +kernel) rfl rfl (Imp.sub (by first | ((repeat (first | exact List.nil_sublist _ | exact List.Sublist.refl _ | apply List.Sublist.cons_cons | apply List.Sublist.cons)); done) | fail)) (g_indexAddr (sz := 8) rfl (.mk rfl rfl) (.mk rfl rfl) rfl rfl (show _ = ((1 : Nat) : Int) from rfl) (by omega) (fun _ _ => rfl)) ?_
  refine WH.take 7 rfl (by decide +kernel) (by decide +kernel) (by decide +kernel) rfl rfl (Imp.sub (by first | ((repeat (first | exact List.nil_sublist _ | exact List.Sublist.refl _ | apply List.Sublist.cons_cons | apply List.Sublist.cons)); done) | fail)) (g_loadA rfl (.mk rfl rfl) rfl rfl (rdr_vec (cs := (lb (gn 5)).cells) (by first | ((repeat (first | exact .head _ | apply List.Mem.tail)); done) | fail) (by omega) r1)) ?_
  refine WH.take 8 rfl (by decide +kernel) (by decide +kernel) (by decide +kernel) rfl rfl (Imp.sub (by first | ((repeat (first | exact List.nil_sublist _ | exact List.Sublist.refl _ | apply List.Sublist.cons_cons | apply List.Sublist.cons)); done) | fail)) (g_move rfl (.mk (v := .slice _ _ _) rfl rfl)) ?_
  refine WH.take 9 rfl (by decide +kernel) (by decide +kernel) (by decide +kernel) rfl rfl (Imp.sub (by first | ((repeat (first | exact List.nil_sublist _ | exact List.Sublist.refl _ | apply List.Sublist.cons_cons | apply List.Sublist.cons)); done) | fail)) (g_indexAddr (sz := 8) rfl (.mk rfl rfl) (.mk rfl rfl) rfl rfl (show _ = ((2 : Nat) : Int) from rfl) (by omega) (fun _ _ => rfl)) ?_
  refine WH.take 10 rfl (by decide +kernel) (by decide +kernel) (by decide +kernel) rfl rfl (Imp.sub (by first | ((repeat (first | exact List.nil_sublist _ | exact List.Sublist.refl _ | apply List.Sublist.cons_cons | apply List.Sublist.cons)); done) | fail)) (g_loadA rfl (.mk rfl rfl) rfl rfl (rdr_vec (cs := (lb (gn 9)).cells) (by first | ((repeat (first | exact .head _ | apply List.Mem.tail)); done) | fail) (by omega) r2)) ?_
  refine WH.two 11 12 (by decide +kernel) rfl rfl rfl rfl ?_ ?_
  refine WL1.lit (cs := kvs [lb 0, lb 0, lb (gn 3), lb (gn 5), lb (gn 9)]) elK rfl rfl rfl (.cons (.mk (v := .agg _) rfl rfl) (.cons (.mk (v := .agg _) rfl rfl) (.cons (.mk (v := .agg _) rfl rfl) (.cons (.mk (v := .agg _) rfl rfl) (.cons (.mk (v := .agg _) rfl rfl) .nil))))) rfl (by intro v hv; simp only [List.mem_cons, List.not_mem_nil, or_false] at hv; rcases hv with rfl | rfl | rfl | rfl | rfl <;> rfl) rfl rfl (fun b33 => ?_)
  refine WL.nil ?_
  refine ⟨(Imp.sub (by first | ((repeat (first | exact List.nil_sublist _ | exact List.Sublist.refl _ | apply List.Sublist.cons_cons | apply List.Sublist.cons)); done) | fail)), ?_⟩
  refine WH.one 12 (by decide +kernel) rfl rfl ?_
  refine WL1.lit (cs := [_, _, _, _, _]) elBo rfl rfl rfl (.cons (.mk (v := .bool _) rfl rfl) (.cons (.mk (v := .bool _) rfl rfl) (.cons (.mk (v := .bool _) rfl rfl) (.cons (.mk (v := .bool _) rfl rfl) (.cons (.mk (v := .bool _) rfl rfl) .nil))))) rfl (by first | (simp [Value.cells]; done) | fail) rfl rfl (fun b34 => ?_)
  refine WL.nil ?_
  refine ⟨(Imp.sub (by first | ((repeat (first | exact List.nil_sublist _ | exact List.Sublist.refl _ | apply List.Sublist.cons_cons | apply List.Sublist.cons)); done) | fail)), ?_⟩
  refine WH.one 13 (by decide +kernel) rfl rfl ?_
  (refine WL1.callN rfl rfl rfl (.cons (.mk (v := .slice _ _ _) rfl rfl) (.cons (.mk (v := .slice _ _ _) rfl rfl) .nil)) (fun w hw => decode_k (m := 5) (n := 2) rfl (by omega) (by omega) rfl rfl (by decide) ex_dec25 (Sl.of_vec hw (by first | ((repeat (first | exact .head _ | apply List.Mem.tail)); done) | fail)) (Sl.of_vec hw (by first | ((repeat (first | exact .head _ | apply List.Mem.tail)); done) | fail))) ?_; rintro _ _ ⟨A3, c3, rfl, rfl⟩)
  refine WL.nil ?_
  refine ⟨(Imp.sub (by first | ((repeat (first | exact List.nil_sublist _ | exact List.Sublist.refl _ | apply List.Sublist.cons_cons | apply List.Sublist.cons)); done) | fail)), ?_⟩
  refine WH.take 14 rfl (by decide +kernel) (by decide +kernel) (by decide +kernel) rfl rfl (Imp.sub (by first | ((repeat (first | exact List.nil_sublist _ | exact List.Sublist.refl _ | apply List.Sublist.cons_cons | apply List.Sublist.cons)); done) | fail)) (g_move rfl (.mk (v := .tuple _) rfl rfl)) ?_
  refine WH.take 15 rfl (by decide +kernel) (by decide +kernel) (by decide +kernel) rfl rfl (Imp.sub (by first | ((repeat (first | exact List.nil_sublist _ | exact List.Sublist.refl _ | apply List.Sublist.cons_cons | apply List.Sublist.cons)); done) | fail)) (g_extract rfl (.mk rfl rfl) rfl) ?_
  refine WH.take 16 rfl (by decide +kernel) (by decide +kernel) (by decide +kernel) rfl rfl (Imp.sub (by first | ((repeat (first | exact List.nil_sublist _ | exact List.Sublist.refl _ | apply List.Sublist.cons_cons | apply List.Sublist.cons)); done) | fail)) (g_extract rfl (.mk rfl rfl) rfl) ?_
  refine WH.take 17 rfl (by decide +kernel) (by decide +kernel) (by decide +kernel) rfl rfl (Imp.sub (by first | ((repeat (first | exact List.nil_sublist _ | exact List.Sublist.refl _ | apply List.Sublist.cons_cons | apply List.Sublist.cons)); done) | fail)) (g_assign rfl (.mk (v := .slice _ _ _) rfl rfl)) ?_
  refine WH.take 18 rfl (by decide +kernel) (by decide +kernel) (by decide +kernel) rfl rfl (Imp.sub (by first | ((repeat (first | exact List.nil_sublist _ | exact List.Sublist.refl _ | apply List.Sublist.cons_cons | apply List.Sublist.cons)); done) | fail)) (g_assign rfl (.mk (v := .int _ _) rfl rfl)) ?_
  refine WH.done (by decide +kernel) ?_
  (refine hK _ _ ?_; clear hK)
  refine WC.seq fun K hK => ?_
  refine WC.region rfl ?_
  (refine WL.want rfl (WL1.callN rfl rfl rfl (.cons (.mk (v := .int _ _) rfl rfl) (.cons (.mk (v := .int _ _) rfl rfl) .nil)) (fun w hw => hch w) ?_); rintro _ _ ⟨A, c, rs, hrl, hly, rfl, rfl⟩)
  refine wG rfl rfl (g_move rfl (.mk (v := .tuple _) rfl rfl)) ?_
  refine wG rfl rfl (g_extract rfl (.mk rfl rfl) rfl) ?_
  refine wG rfl rfl (g_extract rfl (.mk rfl rfl) rfl) ?_
  refine WL.want rfl (WL1.alloc rfl rfl rfl rfl (fun b5 => ?_))
  refine WL.want rfl (WL1.storeAll rfl rfl (.mk rfl rfl) (.mk rfl rfl) rfl (all1 rfl) (by first | rfl | (simp [Blk.len]; done)) (.head) ?_)
  refine wG rfl rfl (g_assign rfl (.mk (v := .int _ _) rfl rfl)) ?_
  refine WL.nil ?_
  (refine hK _ _ ?_; clear hK)
  refine WC.seq fun K hK => ?_
  refine WC.region rfl ?_
  refine wG rfl rfl (g_move rfl (.mk (v := .int _ _) rfl rfl)) ?_
  refine wG rfl rfl (g_eq rfl (.mk rfl rfl) (.mk rfl rfl) (decide_eq_true (by omega))) ?_
  refine wG rfl rfl (g_move rfl (.mk (v := .bool _) rfl rfl)) ?_
  refine WL.wantG rfl rfl rfl rfl (WL1.give rfl (g_move rfl (.mk (v := .int _ _) rfl rfl)) ?_)
  refine WL.wantG rfl rfl rfl rfl (WL1.give rfl (g_eq rfl (.mk rfl rfl) (.mk rfl rfl) (decide_eq_true (by omega))) ?_)
  refine wG rfl rfl (g_pickT rfl (.mk rfl rfl) (.mk (v := .bool _) rfl rfl)) ?_
  refine wG rfl rfl (g_move rfl (.mk (v := .bool _) rfl rfl)) ?_
  refine WL.wantG rfl rfl rfl rfl (WL1.give rfl (g_move rfl (.mk (v := .slice _ _ _) rfl rfl)) ?_)
  refine WL.wantG rfl rfl rfl rfl (WL1.give rfl (g_len rfl (.mk rfl rfl) rfl) ?_)
  refine WL.wantG rfl rfl rfl rfl (WL1.give rfl (g_eq rfl (.mk rfl rfl) (.mk rfl rfl) (decide_eq_true (by omega))) ?_)
  refine wG rfl rfl (g_pickT rfl (.mk rfl rfl) (.mk (v := .bool _) rfl rfl)) ?_
  refine wG rfl rfl (g_move rfl (.mk (v := .bool _) rfl rfl)) ?_
  refine WL.wantG rfl rfl rfl rfl (WL1.give rfl (g_move rfl (.mk (v := .slice _ _ _) rfl rfl)) ?_)
  refine WL.wantG rfl rfl rfl rfl (WL1.give rfl (g_indexAddr (sz := 8) rfl (.mk rfl rfl) (.mk rfl rfl) rfl rfl (show _ = ((1 : Nat) : Int) from rfl) (by omega) (fun w hw => vec_some hw (.tail _ (.tail _ (.tail _ (.head _)))) (by omega))) ?_)
  refine WL.wantG rfl rfl rfl rfl (WL1.give rfl (g_loadA rfl (.mk rfl rfl) rfl rfl (rdr_vec (cs := (lb (gn 2)).cells) (by first | ((repeat (first | exact .head _ | apply List.Mem.tail)); done) | fail) (by omega) r3)) ?_)
  refine WL.wantG rfl rfl rfl rfl (WL1.give rfl (g_buildArr (cs := [_, _, _, _, _, _, _, _]) rfl rfl rfl rfl rfl (.cons (.mk (v := .int _ _) rfl rfl) .nil) rfl rfl rfl) ?_)
  refine WL.wantG rfl rfl rfl rfl (WL1.give rfl (g_aeq (by kernel_rfl) rfl (.mk rfl rfl) (.mk rfl rfl) E2) ?_)
  refine wG rfl rfl (g_pickT rfl (.mk rfl rfl) (.mk (v := .bool _) rfl rfl)) ?_
  refine wG rfl rfl (g_move rfl (.mk (v := .bool _) rfl rfl)) ?_
  refine WL.wantG rfl rfl rfl rfl (WL1.give rfl (g_fieldAddr (off := 1) rfl (.mk rfl rfl) rfl (fun _ _ => rfl)) ?_)
  refine WL.wantG rfl rfl rfl rfl (WL1.give rfl (g_load rfl (.mk rfl rfl) rfl (rd_pt (.head _) rfl)) ?_)
  refine WL.wantG rfl rfl rfl rfl (WL1.give rfl (g_len rfl (.mk rfl rfl) rfl) ?_)
  refine WL.wantG rfl rfl rfl rfl (WL1.give rfl (g_eq rfl (.mk rfl rfl) (.mk rfl rfl) (decide_eq_true (by omega))) ?_)
  refine wG rfl rfl (g_pickT rfl (.mk rfl rfl) (.mk (v := .bool _) rfl rfl)) ?_
  refine wG rfl rfl (g_move rfl (.mk (v := .bool _) rfl rfl)) ?_
  refine WL.wantG rfl rfl rfl rfl (WL1.give rfl (g_loadA rfl (.mk rfl rfl) rfl rfl (rdr_pt (.head _) (fun j u h => by simpa using h))) ?_)
  refine WL.wantG rfl rfl rfl rfl (WL1.give rfl (g_buildS (us := [(0, [_, _]), (1, [_])]) (cs := [iv 5, .slice A rs.length c, iv 1, iv 0]) rfl rfl rfl rfl (.cons (.mk (v := .agg _) rfl rfl) (.cons (.mk (v := .int _ _) rfl rfl) .nil)) rfl (fun p hp => by simp only [List.mem_cons, List.not_mem_nil, or_false] at hp; rcases hp with rfl | rfl <;> exact ⟨_, _, rfl, rfl, Nat.le_of_ble_eq_true rfl⟩) rfl) ?_)
  refine WL.wantG rfl rfl rfl rfl (WL1.callP rfl rfl rfl (.cons (.mk (v := .agg _) rfl rfl) .nil) (fun w hw => lslots_e w hly (IMat.of_rows hw (by first | ((repeat (first | exact .head _ | apply List.Mem.tail)); done) | fail) (by first | ((repeat (first | exact .head _ | apply List.Mem.tail)); done) | fail) rfl)) ?_)
  refine WL.wantG rfl rfl rfl rfl (WL1.giveD rfl (g_eq rfl (.mk rfl rfl) (.mk rfl rfl) rfl) (fun _ => ?_) (fun _ => ?_))
  refine wG rfl rfl (g_pickT rfl (.mk rfl rfl) (.mk (v := .bool _) rfl rfl)) ?_
  refine wG rfl rfl (g_assign rfl (.mk (v := .bool _) rfl rfl)) ?_
  refine WL.nil ?_
  (refine hK _ _ ?_; clear hK)
  refine WC.ret ?_
  rotate_left
  refine wG rfl rfl (g_pickT rfl (.mk rfl rfl) (.mk (v := .bool _) rfl rfl)) ?_
  refine wG rfl rfl (g_assign rfl (.mk (v := .bool _) rfl rfl)) ?_
  refine WL.nil ?_
  (refine hK _ _ ?_; clear hK)
  refine WC.ret ?_
  rotate_left
  refine WL1.lit (cs := [_, _, _, _, _]) elBo rfl rfl rfl (.cons (.mk (v := .bool _) rfl rfl) (.cons (.mk (v := .bool _) rfl rfl) (.cons (.mk (v := .bool _) rfl rfl) (.cons (.mk (v := .bool _) rfl rfl) (.cons (.mk (v := .bool _) rfl rfl) .nil))))) rfl (by first | (simp [Value.cells]; done) | fail) rfl rfl (fun b34 => ?_)
  refine WL.nil ?_
  refine ⟨(Imp.sub (by first | ((repeat (first | exact List.nil_sublist _ | exact List.Sublist.refl _ | apply List.Sublist.cons_cons | apply List.Sublist.cons)); done) | fail)), ?_⟩
  refine WH.one 11 (by decide +kernel) rfl rfl ?_
  refine WL1.lit (cs := kvs [lb 0, lb 0, lb (gn 3), lb (gn 5), lb (gn 9)]) elK rfl rfl rfl (.cons (.mk (v := .agg _) rfl rfl) (.cons (.mk (v := .agg _) rfl rfl) (.cons (.mk (v := .agg _) rfl rfl) (.cons (.mk (v := .agg _) rfl rfl) (.cons (.mk (v := .agg _) rfl rfl) .nil))))) rfl (by intro v hv; simp only [List.mem_cons, List.not_mem_nil, or_false] at hv; rcases hv with rfl | rfl | rfl | rfl | rfl <;> rfl) rfl rfl (fun b33 => ?_)
  refine WL.nil ?_
  refine ⟨(Imp.sub (by first | ((repeat (first | exact List.nil_sublist _ | exact List.Sublist.refl _ | apply List.Sublist.cons_cons | apply List.Sublist.cons)); done) | fail)), ?_⟩
  refine WH.one 13 (by decide +kernel) rfl rfl ?_
  (refine WL1.callN rfl rfl rfl (.cons (.mk (v := .slice _ _ _) rfl rfl) (.cons (.mk (v := .slice _ _ _) rfl rfl) .nil)) (fun w hw => decode_k (m := 5) (n := 2) rfl (by omega) (by omega) rfl rfl (by decide) ex_dec25 (Sl.of_vec hw (by first | ((repeat (first | exact .head _ | apply List.Mem.tail)); done) | fail)) (Sl.of_vec hw (by first | ((repeat (first | exact .head _ | apply List.Mem.tail)); done) | fail))) ?_; rintro _ _ ⟨A3, c3, rfl, rfl⟩)
  refine WL.nil ?_
  refine ⟨(Imp.sub (by first | ((repeat (first | exact List.nil_sublist _ | exact List.Sublist.refl _ | apply List.Sublist.cons_cons | apply List.Sublist.cons)); done) | fail)), ?_⟩
  refine WH.take 14 rfl (by decide +kernel) (by decide +kernel) (by decide +kernel) rfl rfl (Imp.sub (by first | ((repeat (first | exact List.nil_sublist _ | exact List.Sublist.refl _ | apply List.Sublist.cons_cons | apply List.Sublist.cons)); done) | fail)) (g_move rfl (.mk (v := .tuple _) rfl rfl)) ?_
  refine WH.take 15 rfl (by decide +kernel) (by decide +kernel) (by decide +kernel) rfl rfl (Imp.sub (by first | ((repeat (first | exact List.nil_sublist _ | exact List.Sublist.refl _ | apply List.Sublist.cons_cons | apply List.Sublist.cons)); done) | fail)) (g_extract rfl (.mk rfl rfl) rfl) ?_
  refine WH.take 16 rfl (by decide +kernel) (by decide +kernel) (by decide +kernel) rfl rfl (Imp.sub (by first | ((repeat (first | exact List.nil_sublist _ | exact List.Sublist.refl _ | apply List.Sublist.cons_cons | apply List.Sublist.cons)); done) | fail)) (g_extract rfl (.mk rfl rfl) rfl) ?_
  refine WH.take 17 rfl (by decide +kernel) (by decide +kernel) (by decide +kernel) rfl rfl (Imp.sub (by first | ((repeat (first | exact List.nil_sublist _ | exact List.Sublist.refl _ | apply List.Sublist.cons_cons | apply List.Sublist.cons)); done) | fail)) (g_assign rfl (.mk (v := .slice _ _ _) rfl rfl)) ?_
  refine WH.take 18 rfl (by decide +kernel) (by decide +kernel) (by decide +kernel) rfl rfl (Imp.sub (by first | ((repeat (first | exact List.nil_sublist _ | exact List.Sublist.refl _ | apply List.Sublist.cons_cons | apply List.Sublist.cons)); done) | fail)) (g_assign rfl (.mk (v := .int _ _) rfl rfl)) ?_
  refine WH.done (by decide +kernel) ?_
  (refine hK _ _ ?_; clear hK)
  refine WC.seq fun K hK => ?_
  refine WC.region rfl ?_
  (refine WL.want rfl (WL1.callN rfl rfl rfl (.cons (.mk (v := .int _ _) rfl rfl) (.cons (.mk (v := .int _ _) rfl rfl) .nil)) (fun w hw => hch w) ?_); rintro _ _ ⟨A, c, rs, hrl, hly, rfl, rfl⟩)
  refine wG rfl rfl (g_move rfl (.mk (v := .tuple _) rfl rfl)) ?_
  refine wG rfl rfl (g_extract rfl (.mk rfl rfl) rfl) ?_
  refine wG rfl rfl (g_extract rfl (.mk rfl rfl) rfl) ?_
  refine WL.want rfl (WL1.alloc rfl rfl rfl rfl (fun b5 => ?_))
  refine WL.want rfl (WL1.storeAll rfl rfl (.mk rfl rfl) (.mk rfl rfl) rfl (all1 rfl) (by first | rfl | (simp [Blk.len]; done)) (.head) ?_)
  refine wG rfl rfl (g_assign rfl (.mk (v := .int _ _) rfl rfl)) ?_
  refine WL.nil ?_
  (refine hK _ _ ?_; clear hK)
  refine WC.seq fun K hK => ?_
  refine WC.region rfl ?_
  refine wG rfl rfl (g_move rfl (.mk (v := .int _ _) rfl rfl)) ?_
  refine wG rfl rfl (g_eq rfl (.mk rfl rfl) (.mk rfl rfl) (decide_eq_true (by omega))) ?_
  refine wG rfl rfl (g_move rfl (.mk (v := .bool _) rfl rfl)) ?_
  refine WL.wantG rfl rfl rfl rfl (WL1.give rfl (g_move rfl (.mk (v := .int _ _) rfl rfl)) ?_)
  refine WL.wantG rfl rfl rfl rfl (WL1.give rfl (g_eq rfl (.mk rfl rfl) (.mk rfl rfl) (decide_eq_true (by omega))) ?_)
  refine wG rfl rfl (g_pickT rfl (.mk rfl rfl) (.mk (v := .bool _) rfl rfl)) ?_
  refine wG rfl rfl (g_move rfl (.mk (v := .bool _) rfl rfl)) ?_
  refine WL.wantG rfl rfl rfl rfl (WL1.give rfl (g_move rfl (.mk (v := .slice _ _ _) rfl rfl)) ?_)
  refine WL.wantG rfl rfl rfl rfl (WL1.give rfl (g_len rfl (.mk rfl rfl) rfl) ?_)
  refine WL.wantG rfl rfl rfl rfl (WL1.give rfl (g_eq rfl (.mk rfl rfl) (.mk rfl rfl) (decide_eq_true (by omega))) ?_)
  refine wG rfl rfl (g_pickT rfl (.mk rfl rfl) (.mk (v := .bool _) rfl rfl)) ?_
  refine wG rfl rfl (g_move rfl (.mk (v := .bool _) rfl rfl)) ?_
  refine WL.wantG rfl rfl rfl rfl (WL1.give rfl (g_move rfl (.mk (v := .slice _ _ _) rfl rfl)) ?_)
  refine WL.wantG rfl rfl rfl rfl (WL1.give rfl (g_indexAddr (sz := 8) rfl (.mk rfl rfl) (.mk rfl rfl) rfl rfl (show _ = ((1 : Nat) : Int) from rfl) (by omega) (fun w hw => vec_some hw (.tail _ (.tail _ (.tail _ (.head _)))) (by omega))) ?_)
  refine WL.wantG rfl rfl rfl rfl (WL1.give rfl (g_loadA rfl (.mk rfl rfl) rfl rfl (rdr_vec (cs := (lb (gn 2)).cells) (by first | ((repeat (first | exact .head _ | apply List.Mem.tail)); done) | fail) (by omega) r3)) ?_)
  refine WL.wantG rfl rfl rfl rfl (WL1.give rfl (g_buildArr (cs := [_, _, _, _, _, _, _, _]) rfl rfl rfl rfl rfl (.cons (.mk (v := .int _ _) rfl rfl) .nil) rfl rfl rfl) ?_)
  refine WL.wantG rfl rfl rfl rfl (WL1.give rfl (g_aeq (by kernel_rfl) rfl (.mk rfl rfl) (.mk rfl rfl) E2) ?_)
  refine wG rfl rfl (g_pickT rfl (.mk rfl rfl) (.mk (v := .bool _) rfl rfl)) ?_
  refine wG rfl rfl (g_move rfl (.mk (v := .bool _) rfl rfl)) ?_
  refine WL.wantG rfl rfl rfl rfl (WL1.give rfl (g_fieldAddr (off := 1) rfl (.mk rfl rfl) rfl (fun _ _ => rfl)) ?_)
  refine WL.wantG rfl rfl rfl rfl (WL1.give rfl (g_load rfl (.mk rfl rfl) rfl (rd_pt (.head _) rfl)) ?_)
  refine WL.wantG rfl rfl rfl rfl (WL1.give rfl (g_len rfl (.mk rfl rfl) rfl) ?_)
  refine WL.wantG rfl rfl rfl rfl (WL1.give rfl (g_eq rfl (.mk rfl rfl) (.mk rfl rfl) (decide_eq_true (by omega))) ?_)
  refine wG rfl rfl (g_pickT rfl (.mk rfl rfl) (.mk (v := .bool _) rfl rfl)) ?_
  refine wG rfl rfl (g_move rfl (.mk (v := .bool _) rfl rfl)) ?_
  refine WL.wantG rfl rfl rfl rfl (WL1.give rfl (g_loadA rfl (.mk rfl rfl) rfl rfl (rdr_pt (.head _) (fun j u h => by simpa using h))) ?_)
  refine WL.wantG rfl rfl rfl rfl (WL1.give rfl (g_buildS (us := [(0, [_, _]), (1, [_])]) (cs := [iv 5, .slice A rs.length c, iv 1, iv 0]) rfl rfl rfl rfl (.cons (.mk (v := .agg _) rfl rfl) (.cons (.mk (v := .int _ _) rfl rfl) .nil)) rfl (fun p hp => by simp only [List.mem_cons, List.not_mem_nil, or_false] at hp; rcases hp with rfl | rfl <;> exact ⟨_, _, rfl, rfl, Nat.le_of_ble_eq_true rfl⟩) rfl) ?_)
  refine WL.wantG rfl rfl rfl rfl (WL1.callP rfl rfl rfl (.cons (.mk (v := .agg _) rfl rfl) .nil) (fun w hw => lslots_e w hly (IMat.of_rows hw (by first | ((repeat (first | exact .head _ | apply List.Mem.tail)); done) | fail) (by first | ((repeat (first | exact .head _ | apply List.Mem.tail)); done) | fail) rfl)) ?_)
  refine WL.wantG rfl rfl rfl rfl (WL1.giveD rfl (g_eq rfl (.mk rfl rfl) (.mk rfl rfl) rfl) (fun _ => ?_) (fun _ => ?_))
  refine wG rfl rfl (g_pickT rfl (.mk rfl rfl) (.mk (v := .bool _) rfl rfl)) ?_
  refine wG rfl rfl (g_assign rfl (.mk (v := .bool _) rfl rfl)) ?_
  refine WL.nil ?_
  (refine hK _ _ ?_; clear hK)
  refine WC.ret ?_
  rotate_left
  refine wG rfl rfl (g_pickT rfl (.mk rfl rfl) (.mk (v := .bool _) rfl rfl)) ?_
  refine wG rfl rfl (g_assign rfl (.mk (v := .bool _) rfl rfl)) ?_
  refine WL.nil ?_
  (refine hK _ _ ?_; clear hK)
  refine WC.ret ?_
  rotate_left
  all_goals first | exact fun w' hw' => ⟨rfl, hw'.1⟩ | (rename_i hne; exact absurd (by rw [hrl]; rfl) hne)
end Go.Proofs.Ytdcijljfgcjelaa
namespace Go.Proofs.Ytdcijljfgcjelaa
set_option maxRecDepth 20000
open Go.RowKit
def padB (bs : List Bool) (k : Nat) : List Bool := (List.range bs.length).map fun q => nth bs q || decide (bs.length ≤ q + k)
end Go.Proofs.Ytdcijljfgcjelaa
namespace Go.Proofs.Ytdcijljfgcjelaa
set_option maxRecDepth 20000
open Go.RowKit Go.WideShapes Go.ChangeShapes Go.ChangeAt

section
variable {H : Type} {enc : TypeId × Value → H} {P : Program}
theorem trodAll_below (hl : laidOutB P = true) {W W' : World} (hb : Below W.heap.size W W') :
    ∀ (ts : List TypeId), (ts.all fun t => P.readableRec t && decide (t < P.types.size)) = true → ∀ (vs : List Value) (ds : List (DataW H)) (ps : List MemPlace),
      DataW.TrodAll enc P W 0 (fun _ => true) true ts vs ds ps → (∀ x ∈ ps, x.block < W.heap.size) →
      DataW.TrodAll enc P W' 0 (fun b => decide (b < W.heap.size)) true ts vs ds ps
  | [], _, vs, ds, ps, h, _ => by
    obtain ⟨rfl, rfl, rfl⟩ := trodAll_nil h
    exact trodAll_mk0
  | t :: ts, hr, vs, ds, ps, h, hlt => by
    obtain ⟨v, vs', d, ds', p, q, rfl, rfl, rfl, h1, h2⟩ := trodAll_cons h
    simp only [List.all_cons, Bool.and_eq_true, decide_eq_true_eq] at hr
    refine trodAll_cons_mk (Below.trod hl hr.1.1 hr.1.2 h1 hb fun x hx => hlt x (by simp [hx])) (trodAll_below hl hb ts ?_ _ _ _ h2 fun x hx => hlt x (by simp [hx]))
    simpa using hr.2
theorem trodAll_len {w : World} {base : Nat} {spare : Nat → Bool} {held : Bool} : ∀ (ts : List TypeId) (vs : List Value) (ds : List (DataW H)) (ps : List MemPlace),
    DataW.TrodAll enc P w base spare held ts vs ds ps → ds.length = ts.length ∧ vs.length = ts.length
  | [], vs, ds, ps, h => by obtain ⟨rfl, rfl, rfl⟩ := trodAll_nil h; exact ⟨rfl, rfl⟩
  | t :: ts, vs, ds, ps, h => by
    obtain ⟨v, vs', d, ds', p, q, rfl, rfl, rfl, _, h2⟩ := trodAll_cons h
    have := trodAll_len ts vs' ds' q h2
    exact ⟨by simp [this.1], by simp [this.2]⟩
theorem law_post {fn : Func} {s : ChangeSpec} {W W' : World} {args : Array Value} {ds gs : List (DataW H)} {before : List MemPlace} {tb : TypeId}
    (hl : laidOutB P = true) (hr : (fn.params.toList.all fun t => P.readableRec t && decide (t < P.types.size)) = true)
    (hv : s.vars = []) (hres : fn.resultTypes = #[tb]) (hbool : P.underlying tb = some .bool)
    (hs : ∀ ds : List (DataW H), ds.length = fn.params.toList.length → s.fn H ds = { results := [.lit (.bool true)], args := ds })
    (hW : DataW.Whole enc P fn.params.toList s.vars false W args.toList ds gs before) (hb : Below W.heap.size W W') :
    s.post enc P fn false true false false W args (.bool true) W' := by
  have hW0 := hW
  obtain ⟨p, q, hA, hV, rfl, _, _⟩ := hW
  have hV' := hV
  rw [hv] at hV'
  obtain ⟨rfl, rfl⟩ := trodVars_none hV'
  have hlen := (trodAll_len _ _ _ _ hA).1
  have hsd : s.fn H (ds ++ []) = { results := [.lit (.bool true)], args := ds } := by rw [List.append_nil]; exact hs ds hlen
  refine ⟨ds, [], _, [], p, [], hW0, ?_, ?_, ?_, hb.frame _, fun h => by cases h⟩
  · rw [hsd, hres]
    exact trodAll_cons_mk (shut_bool hbool _) trodAll_mk0
  · rw [hsd]
    exact trodAll_below hl hb _ hr _ _ _ hA fun x hx => hW0.lt x (by simp [hx])
  · rw [hv]
    rw [hsd]
    exact rfl
end
end Go.Proofs.Ytdcijljfgcjelaa
namespace Go.Proofs.Ytdcijljfgcjelaa
set_option maxRecDepth 20000
open Go.RowKit Go.WideShapes Go.ChangeShapes Go.ChangeAt
section
variable {H : Type} {enc : TypeId × Value → H} {W : World} {base : Nat}
theorem open_u8i {b0 : Nat} {v : Value} {d : DataW H} {p : List MemPlace} (hv : Value.okWide Try.prog W .any b0 5 v) (h : DataW.Trod enc Try.prog W 0 (fun _ => true) true 5 v d p) : ∃ n : Int, v = .int .u8 n ∧ 0 ≤ n ∧ n ≤ 255 := by
  obtain ⟨n, rfl, _, _, hw⟩ := open_int Try.underlying5 hv h
  exact ⟨n, rfl, bounds_u8 hw⟩
def u8v (x : Int) : Value := .int .u8 x
end
end Go.Proofs.Ytdcijljfgcjelaa
namespace Go.Proofs.Ytdcijljfgcjelaa
set_option maxRecDepth 20000
open Go.RowKit Go.WideShapes Go.ChangeShapes Go.ChangeAt
section
variable {H : Type} {enc : TypeId × Value → H} {W : World}
end
end Go.Proofs.Ytdcijljfgcjelaa
namespace Go.Proofs.Ytdcijljfgcjelaa
set_option maxRecDepth 20000
open Go.RowKit Go.WideShapes Go.ChangeShapes Go.ChangeAt
def fltFs (P : Program) (g : TypeId → Option (List (Option IntKind))) : Nat → List Field → Option (List (Option IntKind))
  | _, [] => some []
  | off, f :: fs => if f.offset = off then (g f.type).bind fun l => if P.cellsOf f.type = l.length then (fltFs P g (off + l.length) fs).map fun r => l ++ r else none else none
def fltT (P : Program) : Nat → TypeId → Option (List (Option IntKind))
  | 0, _ => none
  | n + 1, t => match P.underlying t with
    | some (.int k) => some [some k]
    | some .bool => some [none]
    | some (.array m e) => (fltT P n e).bind fun l => if P.cellsOf e = l.length ∧ P.cellsOf t = m * l.length then some (List.replicate m l).flatten else none
    | some (.struct fs) => (fltFs P (fltT P n) 0 fs.toList).bind fun l => if P.cellsOf t = l.length then some l else none
    | _ => none
inductive Lf : List (Option IntKind) → List Value → Prop
  | nil : Lf [] []
  | int {k : IntKind} {z : Int} {ks : List (Option IntKind)} {cs : List Value} : (Lit.int k z).wf = true → Lf ks cs → Lf (some k :: ks) (.int k z :: cs)
  | bool {b : Bool} {ks : List (Option IntKind)} {cs : List Value} : Lf ks cs → Lf (none :: ks) (.bool b :: cs)
section
variable {H : Type} {enc : TypeId × Value → H} {P : Program} {w : World} {base : Nat} {spare : Nat → Bool} {held : Bool}
end
def aggB (P : Program) (t : TypeId) : Bool := match P.underlying t with | some (.struct _) => true | some (.array _ _) => true | _ => false
section
variable {H : Type} {enc : TypeId × Value → H} {W : World}
end
end Go.Proofs.Ytdcijljfgcjelaa
namespace Go.Proofs.Ytdcijljfgcjelaa
set_option maxRecDepth 20000
open Go.RowKit Go.WideShapes Go.ChangeShapes Go.ChangeAt
theorem own : ownKnob Try.prog.godebug = none := by kernel_rfl
theorem laidOut : laidOutB Try.prog = true := by kernel_rfl
abbrev blkK : List (Option IntKind) := List.replicate 8 (some .u8)
section
variable {H : Type} {enc : TypeId × Value → H} {W : World}
end
end Go.Proofs.Ytdcijljfgcjelaa
namespace Go.Proofs.Ytdcijljfgcjelaa
set_option maxRecDepth 20000
open Go.RowKit Go.WideShapes Go.ChangeShapes Go.ChangeAt
attribute [local irreducible] Calls
section
variable {H : Type} {enc : TypeId × Value → H} {W : World}
end
/-! ### The first three marks -/
def bitB (s q : Nat) : Bool := decide (s / 2 ^ q % 2 = 1)
def cnM (s : Nat) : Nat → Nat
  | 0 => 0
  | q + 1 => if bitB s q = true ∧ cnM s q < 3 then cnM s q + 1 else cnM s q
def mkB (s q : Nat) : Bool := decide (bitB s q = true ∧ cnM s q < 3)
def mkP (m s i : Nat) : List Bool := (List.range m).map fun q => decide (q < i) && mkB s q
def mkL (m s : Nat) : List Bool := (List.range m).map (mkB s)
theorem made_bo (n : Nat) : (madeCells (Value.bool false).cells (n * 1)).toList = bls (List.replicate n false) := by
  rw [show (Value.bool false).cells = #[.bool false] from rfl, made_one, bls, List.map_replicate]
end Go.Proofs.Ytdcijljfgcjelaa
namespace Go.Proofs.Ytdcijljfgcjelaa
set_option maxRecDepth 20000
open Go.RowKit
attribute [local irreducible] Calls
def scn (v k : Nat) (l : List Nat) : Nat → Nat
  | 0 => 0
  | j + 1 => if nth l j = v - k + j then scn v k l j else j + 1
theorem scn_le (v k : Nat) (l : List Nat) : ∀ j, scn v k l j ≤ j
  | 0 => Nat.le_refl _
  | j + 1 => by
    have := scn_le v k l j
    rw [scn]; split <;> omega
def filL (l : List Nat) (j : Nat) : Nat → List Nat
  | 0 => l
  | d + 1 => (filL l j d).set (j + d) (nth (filL l j d) (j + d - 1) + 1)
theorem filL_len (l : List Nat) (j : Nat) : ∀ d, (filL l j d).length = l.length
  | 0 => rfl
  | d + 1 => by rw [filL, List.length_set, filL_len l j d]
def nxtL (k i : Nat) (l : List Nat) : List Nat := filL (l.set i (nth l i + 1)) (i + 1) (k - (i + 1))
def ends (v k : Nat) : Nat → List Nat → Bool
  | 0, l => Nat.beq (scn v k l k) 0
  | q + 1, l => match scn v k l k with
    | 0 => false
    | i + 1 => ends v k q (nxtL k i l)
theorem set_le {l : List Nat} {B j x : Nat} (h : ∀ i, nth l i ≤ B) (hx : x ≤ B) : ∀ i, nth (l.set j x) i ≤ B := fun i => by
  by_cases hj : j < l.length
  · rw [nth_set_eq hj]; split
    · exact hx
    · exact h i
  · rw [List.set_eq_of_length_le (by omega)]; exact h i
theorem filL_le {l : List Nat} {B j : Nat} (h : ∀ i, nth l i ≤ B) : ∀ d, ∀ i, nth (filL l j d) i ≤ B + d
  | 0 => h
  | d + 1 => set_le (fun i => Nat.le_succ_of_le (filL_le h d i)) (Nat.succ_le_succ (filL_le h d _))
theorem nxtL_le {l : List Nat} {B k i : Nat} (h : ∀ i, nth l i ≤ B) (hk : k ≤ 60) : ∀ q, nth (nxtL k i l) q ≤ B + 61 := fun q => by
  have := filL_le (j := i + 1) (set_le (j := i) (x := nth l i + 1) (fun q => Nat.le_succ_of_le (h q)) (Nat.succ_le_succ (h i))) (k - (i + 1)) q
  unfold nxtL
  omega
theorem nxtL_len (k i : Nat) (l : List Nat) : (nxtL k i l).length = l.length := by unfold nxtL; rw [filL_len, List.length_set]
theorem ldv_set (l : List Nat) (k x : Nat) : (ldv l).set k (iv x) = ldv (l.set k x) := by unfold ldv; rw [List.map_set]
theorem made_iv (n : Nat) : (madeCells (Value.int .i64 0).cells (n * 1)).toList = ldv (List.replicate n 0) := by
  rw [show (Value.int .i64 0).cells = #[.int .i64 0] from rfl, made_one, ldv, List.map_replicate]; rfl
def rngP (k i : Nat) : List Nat := (List.range k).map fun q => if q < i then q else 0
theorem rngP_len (k i : Nat) : (rngP k i).length = k := by simp [rngP]
theorem rngP_zero (k : Nat) : rngP k 0 = List.replicate k 0 := by
  unfold rngP
  rw [show (fun q => if q < 0 then q else 0) = fun _ => 0 from funext fun q => by simp, List.map_const', List.length_range]
theorem rngP_set {k i : Nat} (h : i < k) : (rngP k i).set i i = rngP k (i + 1) :=
  list_ext_nth (by rw [List.length_set, rngP_len, rngP_len]) fun q hq => by
    have hq3 : q < k := by rw [List.length_set, rngP_len] at hq; exact hq
    have e1 : nth (rngP k i) q = if q < i then q else 0 := nth_range _ hq3
    have e2 : nth (rngP k (i + 1)) q = if q < i + 1 then q else 0 := nth_range _ hq3
    rw [nth_set_eq (by rw [rngP_len]; exact h), e1, e2]
    by_cases e : q = i
    · subst e; rw [if_pos rfl, if_pos (by omega)]
    · rw [if_neg e]
      by_cases e3 : q < i
      · rw [if_pos e3, if_pos (by omega)]
      · rw [if_neg e3, if_neg (by omega)]
theorem rngP_all (k : Nat) : rngP k k = List.range k := by
  unfold rngP
  rw [List.map_congr_left (g := fun q => q) fun q hq => if_pos (List.mem_range.1 hq)]
  simp
theorem rng_le (k i : Nat) : nth (List.range k) i ≤ k := by
  by_cases h : i < k
  · have : nth (List.range k) i = i := by rw [nth_eq (by simpa using h)]; simp
    omega
  · unfold nth; rw [List.getD_eq_getElem?_getD, List.getElem?_eq_none (by simpa using h)]; exact Nat.zero_le _
set_option maxHeartbeats 2000000 in
theorem rcomplete_n (v k q : Nat) (w : World) (hv : v ≤ 60) (hk : 1 ≤ k) (hkv : k ≤ v) (hq : q ≤ 4096) (hE : ends v k q (List.range k) = true) :
    Calls Try.prog 59 #[iv v, iv k] w fun e w' => ∃ u M, e = .returned u ∧ H w M w' ∧ ∃ A c, u = .agg #[iv v, .slice A (q + 1) c] ∧ M = [] := by
  refine calls_wcG (args := [iv v, iv k]) [.cell 4 44] [] Try.func59 rfl Try.ntmps59 rfl rfl (H.refl _) ?_
  refine WC.seq fun K hK => ?_
  refine WC.region rfl ?_
  refine WL.want rfl (WL1.alloc rfl rfl rfl rfl (fun b4 => ?_))
  refine WL.nil ?_
  (refine hK _ _ ?_; clear hK)
  refine WC.seq fun K hK => ?_
  refine WC.region rfl ?_
  refine wG rfl rfl (g_move rfl (.mk (v := .int _ _) rfl rfl)) ?_
  refine wG rfl rfl (g_build (cs := [_, _]) rfl rfl rfl rfl (.cons (.mk (v := .int _ _) rfl rfl) .nil) rfl rfl rfl) ?_
  refine WL.want rfl (WL1.alloc rfl rfl rfl rfl (fun b5 => ?_))
  refine WL.want rfl (WL1.storeAll rfl rfl (.mk rfl rfl) (.mk rfl rfl) rfl (all1 rfl) (by first | rfl | (simp [Blk.len]; done)) (.head) ?_)
  refine WL.nil ?_
  (refine hK _ _ ?_; clear hK)
  refine WC.seq fun K hK => ?_
  refine WC.region rfl ?_
  refine wG rfl rfl (g_move rfl (.mk (v := .int _ _) rfl rfl)) ?_
  refine WL.want rfl (WL1.make elI rfl rfl (.mk rfl rfl) (.mk rfl rfl) rfl rfl (by omega) (by unfold maxLen; omega) (fun b13 => ?_))
  refine wG rfl rfl (g_assign rfl (.mk (v := .slice _ _ _) rfl rfl)) ?_
  refine WL.nil ?_
  (refine hK _ _ ?_; clear hK)
  refine WC.seq fun K hK => ?_
  refine WC.seq fun K hK => ?_
  refine WC.region rfl ?_
  refine wG rfl rfl (g_assign rfl (.mk (v := .int _ _) rfl rfl)) ?_
  refine WL.nil ?_
  (refine hK _ _ ?_; clear hK)
  refine WC.block ?_
  rw [made_iv, ← rngP_zero]
  refine WC.loop (8372352) (fun i : Nat => [(7, iv i)]) (fun i => [vec (some ⟨b13, 0, none⟩) k k 3 1 (ldv (rngP k i)), pt b5 DT [iv v, .slice none 0 0], pt b4 DT [iv 0, .slice none 0 0]]) (fun i => i ≤ k) (fun i => k - i) 0 ⟨rfl, trivial⟩ (.refl _) (by omega) ?_
  intro i U hi
  have hrl := rngP_len k i
  have hdl := ldv_len (rngP k i)
  by_cases hlt : i < k
  · refine WC.seq fun K hK => ?_
    refine WC.seq fun K hK => ?_
    refine WC.region rfl ?_
    refine wG rfl rfl (g_move rfl (.mk (v := .int _ _) rfl rfl)) ?_
    refine wG rfl rfl (g_move rfl (.mk (v := .int _ _) rfl rfl)) ?_
    refine wG rfl rfl (g_lt rfl (.mk rfl rfl) (.mk rfl rfl) (decide_eq_true (by omega))) ?_
    refine WL.nil ?_
    (refine hK _ _ ?_; clear hK)
    refine WC.cond_true (.mk rfl rfl) ?_
    refine WC.skip ?_
    (refine hK _ _ ?_; clear hK)
    refine WC.seq fun K hK => ?_
    refine WC.block ?_
    refine WC.region rfl ?_
    refine wG rfl rfl (g_move rfl (.mk (v := .slice _ _ _) rfl rfl)) ?_
    refine wG rfl rfl (g_move rfl (.mk (v := .int _ _) rfl rfl)) ?_
    refine wG rfl rfl (g_move rfl (.mk (v := .int _ _) rfl rfl)) ?_
    refine wG rfl rfl (g_indexAddr (sz := 1) rfl (.mk rfl rfl) (.mk rfl rfl) rfl rfl rfl (by omega) (fun _ _ => rfl)) ?_
    refine WL.want rfl (WL1.storeV1 rfl rfl (.mk rfl rfl) (.mk (v := .int _ _) rfl rfl) rfl rfl (by first | omega | (simp; done) | (simp; omega)) (.head) ?_)
    refine WL.nil ?_
    (refine hK _ _ ?_; clear hK)
    refine WC.region rfl ?_
    refine wG rfl rfl (g_move rfl (.mk (v := .int _ _) rfl rfl)) ?_
    refine wG rfl rfl (g_add rfl (.mk rfl rfl) (.mk rfl rfl) (IntWalk.i64_in _ (by omega))) ?_
    refine wG rfl rfl (g_assign rfl (.mk (v := .int _ _) rfl rfl)) ?_
    refine WL.nil ?_
    refine ⟨i + 1, (by repeat (first | with_reducible exact Out.refl _ _ | refine Out.set rfl ?_ | refine Out.put rfl ?_ | refine Out.sets rfl ?_ | refine Out.hav rfl ?_ | exact Out.refl _ _)), ⟨rfl, trivial⟩, ?_, by omega, by omega⟩
    rw [Nat.mul_one, ldv_set, rngP_set hlt]
    exact .refl _
  obtain rfl : i = k := by omega
  rw [rngP_all]
  refine WC.seq fun K hK => ?_
  refine WC.seq fun K hK => ?_
  refine WC.region rfl ?_
  refine wG rfl rfl (g_move rfl (.mk (v := .int _ _) rfl rfl)) ?_
  refine wG rfl rfl (g_move rfl (.mk (v := .int _ _) rfl rfl)) ?_
  refine wG rfl rfl (g_lt rfl (.mk rfl rfl) (.mk rfl rfl) (decide_eq_false (by omega))) ?_
  refine WL.nil ?_
  (refine hK _ _ ?_; clear hK)
  refine WC.cond_false (.mk rfl rfl) ?_
  refine WC.exit ?_
  (clear hK; refine hK _ _ ?_; clear hK)
  refine WC.block ?_
  refine WC.nilvec 32 1 ?_
  refine WC.loopI4 (18889465931478572466944) (fun (q' : Nat) (l : List Nat) (Ac : Option Addr × Nat) (gv : List Value) => []) (fun q' l Ac gv => vec (some ⟨b13, 0, none⟩) i i 3 1 (ldv l) :: pt b5 DT [iv v, .slice Ac.1 gv.length Ac.2] :: vec Ac.1 gv.length Ac.2 32 1 gv :: pt b4 DT [iv 0, .slice none 0 0] :: []) (fun q' l _ gv => gv.length + q' = q ∧ ends v i q' l = true ∧ l.length = i ∧ (∀ p, nth l p ≤ 60 + 61 * gv.length) ∧ ∀ u ∈ gv, u.oneCell' = true) (fun q' _ _ _ => q') q (List.range i) (none, 0) [] trivial (Imp.pick (by repeat (first | exact .head | apply Take.tail)) (Imp.pick (by repeat (first | exact .head | apply Take.tail)) (Imp.pick (by repeat (first | exact .head | apply Take.tail)) (Imp.pick (by repeat (first | exact .head | apply Take.tail)) (Imp.nil _))))) ⟨by simp, hE, by simp, fun p => by have := rng_le i p; omega, by simp⟩ ?_
  clear hE hlt hi hrl hdl
  rintro q' l ⟨A, c⟩ gv U2 ⟨hgq, hE, hll, hlb, hone⟩
  have hdl := ldv_len l
  dsimp only
  have hco := fun u (hu : u ∈ ldv l) => ldv_one l u hu
  refine WC.block ?_
  refine WC.seq fun K hK => ?_
  refine WC.until [pt b5 DT [iv v, .slice A gv.length c]] [8] rfl (by kernel_rfl) ?_
  refine WB.takeP 0 rfl (by decide +kernel) (by decide +kernel) (by decide +kernel) (by decide +kernel) rfl rfl (.inr (Imp.sub (by first | ((repeat (first | exact List.nil_sublist _ | exact List.Sublist.refl _ | apply List.Sublist.cons_cons | apply List.Sublist.cons)); done) | fail))) (g_fieldAddr (off := 1) rfl (.mk rfl rfl) rfl (fun _ _ => rfl)) ?_
  refine WB.take 1 rfl (by decide +kernel) (by decide +kernel) (by decide +kernel) (by decide +kernel) rfl rfl (Imp.sub (by first | ((repeat (first | exact List.nil_sublist _ | exact List.Sublist.refl _ | apply List.Sublist.cons_cons | apply List.Sublist.cons)); done) | fail)) (g_load rfl (.mk rfl rfl) rfl (rd_pt (.head _) rfl)) ?_
  refine WB.takeP 3 rfl (by decide +kernel) (by decide +kernel) (by decide +kernel) (by decide +kernel) rfl rfl (.inr (Imp.sub (by first | ((repeat (first | exact List.nil_sublist _ | exact List.Sublist.refl _ | apply List.Sublist.cons_cons | apply List.Sublist.cons)); done) | fail))) (g_move rfl (.mk (v := .slice _ _ _) rfl rfl)) ?_
  refine WB.one 2 (by decide +kernel) rfl rfl ?_
  refine WL1.lit (cs := []) elI rfl rfl rfl .nil rfl (by first | (simp [Value.cells]; done) | fail) rfl rfl (fun b25 => ?_)
  refine WL.nil ?_
  refine ⟨.inr (Imp.sub (by first | ((repeat (first | exact List.nil_sublist _ | exact List.Sublist.refl _ | apply List.Sublist.cons_cons | apply List.Sublist.cons)); done) | fail)), ?_⟩
  refine WB.one 4 (by decide +kernel) rfl rfl ?_
  refine WL1.append elI rfl rfl (.mk rfl rfl) (.mk rfl rfl) (.head) (fun w hw => Sl.of_vec hw (.tail _ (.head _))) (ldv_one _) (by unfold maxLen; omega) (by omega) (fun A27 c27 => ?_)
  refine WL.nil ?_
  refine ⟨.inr (Imp.sub (by first | ((repeat (first | exact List.nil_sublist _ | exact List.Sublist.refl _ | apply List.Sublist.cons_cons | apply List.Sublist.cons)); done) | fail)), ?_⟩
  refine WB.one 5 (by decide +kernel) rfl rfl ?_
  refine WL1.lit (cs := [_]) elRI rfl rfl rfl (.cons (.mk (v := .slice _ _ _) rfl rfl) .nil) rfl (by first | (simp [Value.cells]; done) | fail) rfl rfl (fun b28 => ?_)
  refine WL.nil ?_
  refine ⟨.inr (Imp.sub (by first | ((repeat (first | exact List.nil_sublist _ | exact List.Sublist.refl _ | apply List.Sublist.cons_cons | apply List.Sublist.cons)); done) | fail)), ?_⟩
  refine WB.one 6 (by decide +kernel) rfl rfl ?_
  refine WL1.append elRI rfl rfl (.mk rfl rfl) (.mk rfl rfl) (.tail (.tail (.tail (.tail (.head))))) (fun w hw => Sl.of_vec hw (.head _)) (all1 rfl) (by unfold maxLen; omega) (by omega) (fun A29 c29 => ?_)
  refine WL.nil ?_
  refine ⟨.inr (Imp.sub (by first | ((repeat (first | exact List.nil_sublist _ | exact List.Sublist.refl _ | apply List.Sublist.cons_cons | apply List.Sublist.cons)); done) | fail)), ?_⟩
  refine WB.takeP 7 rfl (by decide +kernel) (by decide +kernel) (by decide +kernel) (by decide +kernel) rfl rfl (.inr (Imp.sub (by first | ((repeat (first | exact List.nil_sublist _ | exact List.Sublist.refl _ | apply List.Sublist.cons_cons | apply List.Sublist.cons)); done) | fail))) (g_fieldAddr (off := 1) rfl (.mk rfl rfl) rfl (fun _ _ => rfl)) ?_
  refine WB.one 8 (by decide +kernel) rfl rfl ?_
  refine WL1.store1 rfl rfl (.mk rfl rfl) (.mk (v := .slice _ _ _) rfl rfl) rfl rfl (Nat.le_of_ble_eq_true rfl) (.tail (.tail (.tail (.tail (.head))))) ?_
  refine WL.nil ?_
  refine ⟨.inl (by decide +kernel), ?_⟩
  refine WB.done (by decide +kernel) ?_
  (refine hK _ _ ?_; clear hK)
  refine WC.seq fun K hK => ?_
  refine WC.region rfl ?_
  refine wG rfl rfl (g_move rfl (.mk (v := .int _ _) rfl rfl)) ?_
  refine wG rfl rfl (g_sub rfl (.mk rfl rfl) (.mk rfl rfl) (IntWalk.i64_in _ (by omega))) ?_
  refine wG rfl rfl (g_assign rfl (.mk (v := .int _ _) rfl rfl)) ?_
  refine WL.nil ?_
  (refine hK _ _ ?_; clear hK)
  refine WC.seq fun K hK => ?_
  refine WC.block ?_
  obtain ⟨gv', hgv⟩ : ∃ gv', gv' = gv ++ [Value.slice A27 (0 + i) c27] := ⟨_, rfl⟩
  have hgl : gv'.length = gv.length + 1 := by rw [hgv, List.length_append]; rfl
  have hone' : ∀ u ∈ gv', u.oneCell' = true := fun u hu => by
    rw [hgv] at hu
    rcases List.mem_append.1 hu with hu | hu
    · exact hone u hu
    · rw [List.mem_singleton] at hu; rw [hu]; rfl
  refine WC.imp (M := [vec (some ⟨b13, 0, none⟩) i i 3 1 (ldv l), pt b5 DT [iv v, .slice A29 (gv.length + 1) c29], vec A29 (gv.length + 1) c29 32 1 gv', pt b4 DT [iv 0, .slice none 0 0]]) (by rw [hgv]; exact Imp.pick (by repeat (first | exact .head | apply Take.tail)) (Imp.pick (by repeat (first | exact .head | apply Take.tail)) (Imp.pick (by repeat (first | exact .head | apply Take.tail)) (Imp.pick (by repeat (first | exact .head | apply Take.tail)) (Imp.nil _))))) ?_
  clear hgv hone hco
  refine WC.loop (562941363486976) (fun j : Nat => [(8, iv ((j : Int) - 1))]) (fun _ => [vec (some ⟨b13, 0, none⟩) i i 3 1 (ldv l), pt b5 DT [iv v, .slice A29 (gv.length + 1) c29], vec A29 (gv.length + 1) c29 32 1 gv', pt b4 DT [iv 0, .slice none 0 0]]) (fun j => j ≤ i ∧ scn v i l i = scn v i l j) (fun j => j) i ⟨rfl, trivial⟩ (.refl _) ⟨by omega, rfl⟩ ?_
  rintro j U3 ⟨hj, hsc⟩
  cases j with
  | zero =>
    have hq0 : q' = 0 := by
      cases q' with
      | zero => rfl
      | succ p => rw [ends, hsc, scn] at hE; cases hE
    subst hq0
    refine WC.seq fun K hK => ?_
    refine WC.seq fun K hK => ?_
    refine WC.region rfl ?_
    refine wG rfl rfl (g_move rfl (.mk (v := .int _ _) rfl rfl)) ?_
    refine wG rfl rfl (g_ge rfl (.mk rfl rfl) (.mk rfl rfl) (decide_eq_false (by omega))) ?_
    refine wG rfl rfl (g_move rfl (.mk (v := .bool _) rfl rfl)) ?_
    refine WL.skipG rfl rfl rfl rfl rfl rfl ?_
    refine WL.skipG rfl rfl rfl rfl rfl rfl ?_
    refine WL.skipG rfl rfl rfl rfl rfl rfl ?_
    refine WL.skipG rfl rfl rfl rfl rfl rfl ?_
    refine WL.skipG rfl rfl rfl rfl rfl rfl ?_
    refine WL.skipG rfl rfl rfl rfl rfl rfl ?_
    refine WL.skipG rfl rfl rfl rfl rfl rfl ?_
    refine WL.skipG rfl rfl rfl rfl rfl rfl ?_
    refine WL.skipG rfl rfl rfl rfl rfl rfl ?_
    refine WL.skipG rfl rfl rfl rfl rfl rfl ?_
    refine wG rfl rfl (g_pickF rfl (.mk rfl rfl) (.mk (v := .bool _) rfl rfl)) ?_
    refine WL.nil ?_
    (refine hK _ _ ?_; clear hK)
    refine WC.cond_false (.mk rfl rfl) ?_
    refine WC.exit ?_
    (clear hK; refine hK _ _ ?_; clear hK)
    refine WC.seq fun K hK => ?_
    refine WC.seq fun K hK => ?_
    refine WC.region rfl ?_
    refine wG rfl rfl (g_move rfl (.mk (v := .int _ _) rfl rfl)) ?_
    refine wG rfl rfl (g_lt rfl (.mk rfl rfl) (.mk rfl rfl) (decide_eq_true (by omega))) ?_
    refine WL.nil ?_
    (refine hK _ _ ?_; clear hK)
    refine WC.cond_true (.mk rfl rfl) ?_
    refine WC.seq fun K hK => ?_
    refine WC.region rfl ?_
    refine wG rfl rfl (g_loadA rfl (.mk rfl rfl) rfl rfl (rdr_pt (.tail _ (.head _)) (fun j u h => by simpa using h))) ?_
    refine WL.want rfl (WL1.storeAll rfl rfl (.mk rfl rfl) (.mk rfl rfl) rfl (all1 rfl) (by first | rfl | (simp [Blk.len]; done)) (.tail (.tail (.tail (.head)))) ?_)
    refine WL.nil ?_
    (refine hK _ _ ?_; clear hK)
    refine WC.ret ?_
    refine ⟨_, .cell rfl rfl rfl rfl (by first | ((repeat (first | exact .head _ | apply List.Mem.tail)); done) | fail) .nil, fun w' hw' => ⟨_, [], rfl, hw'.sub (List.nil_sublist _), A29, c29, ?_, rfl⟩⟩
    show Value.agg #[iv v, .slice A29 (gv.length + 1) c29] = _
    rw [show gv.length = q from hgq]
  | succ p =>
    have hpi : p < i := by omega
    have hgp := ldv_get (ld := l) (k := p) (by omega)
    have hb := hlb p
    have hx : (((p + 1 : Nat) : Int) - 1).toNat = p := by omega
    have hsp : scn v i l (p + 1) = if nth l p = v - i + p then scn v i l p else p + 1 := rfl
    by_cases he : nth l p = v - i + p
    · rw [if_pos he] at hsp
      have hgp2 : (ldv l)[(((p + 1 : Nat) : Int) - 1).toNat * 1]? = some (iv ((v : Int) - i + (((p + 1 : Nat) : Int) - 1))) := by
        rw [hx, hgp, he]; congr 2; omega
      refine WC.seq fun K hK => ?_
      refine WC.seq fun K hK => ?_
      refine WC.region rfl ?_
      refine wG rfl rfl (g_move rfl (.mk (v := .int _ _) rfl rfl)) ?_
      refine wG rfl rfl (g_ge rfl (.mk rfl rfl) (.mk rfl rfl) (decide_eq_true (by omega))) ?_
      refine wG rfl rfl (g_move rfl (.mk (v := .bool _) rfl rfl)) ?_
      refine WL.wantG rfl rfl rfl rfl (WL1.give rfl (g_move rfl (.mk (v := .slice _ _ _) rfl rfl)) ?_)
      refine WL.wantG rfl rfl rfl rfl (WL1.give rfl (g_move rfl (.mk (v := .int _ _) rfl rfl)) ?_)
      refine WL.wantG rfl rfl rfl rfl (WL1.give rfl (g_indexAddr (sz := 1) rfl (.mk rfl rfl) (.mk rfl rfl) rfl rfl (Int.toNat_of_nonneg (by omega)).symm (by omega) (fun _ _ => rfl)) ?_)
      refine WL.wantG rfl rfl rfl rfl (WL1.give rfl (g_load rfl (.mk rfl rfl) rfl (rd_vec (by first | ((repeat (first | exact .head _ | apply List.Mem.tail)); done) | fail) hgp2)) ?_)
      refine WL.wantG rfl rfl rfl rfl (WL1.give rfl (g_move rfl (.mk (v := .int _ _) rfl rfl)) ?_)
      refine WL.wantG rfl rfl rfl rfl (WL1.give rfl (g_move rfl (.mk (v := .int _ _) rfl rfl)) ?_)
      refine WL.wantG rfl rfl rfl rfl (WL1.give rfl (g_sub rfl (.mk rfl rfl) (.mk rfl rfl) (IntWalk.i64_in _ (by omega))) ?_)
      refine WL.wantG rfl rfl rfl rfl (WL1.give rfl (g_move rfl (.mk (v := .int _ _) rfl rfl)) ?_)
      refine WL.wantG rfl rfl rfl rfl (WL1.give rfl (g_add rfl (.mk rfl rfl) (.mk rfl rfl) (IntWalk.i64_in _ (by omega))) ?_)
      refine WL.wantG rfl rfl rfl rfl (WL1.give rfl (g_eq rfl (.mk rfl rfl) (.mk rfl rfl) (decide_eq_true (by omega))) ?_)
      refine wG rfl rfl (g_pickT rfl (.mk rfl rfl) (.mk (v := .bool _) rfl rfl)) ?_
      refine WL.nil ?_
      (refine hK _ _ ?_; clear hK)
      refine WC.cond_true (.mk rfl rfl) ?_
      refine WC.skip ?_
      (refine hK _ _ ?_; clear hK)
      refine WC.block ?_
      refine WC.region rfl ?_
      refine wG rfl rfl (g_move rfl (.mk (v := .int _ _) rfl rfl)) ?_
      refine wG rfl rfl (g_sub rfl (.mk rfl rfl) (.mk rfl rfl) (IntWalk.i64_in _ (by omega))) ?_
      refine wG rfl rfl (g_assign rfl (.mk (v := .int _ _) rfl rfl)) ?_
      refine WL.nil ?_
      exact ⟨p, (by repeat (first | with_reducible exact Out.refl _ _ | refine Out.set rfl ?_ | refine Out.put rfl ?_ | refine Out.sets rfl ?_ | refine Out.hav rfl ?_ | exact Out.refl _ _)), ⟨by show iv _ = iv _; congr 1; omega, trivial⟩, .refl _, ⟨by omega, by rw [hsc, hsp]⟩, by omega⟩
    · rw [if_neg he] at hsp
      have hgp2 : (ldv l)[(((p + 1 : Nat) : Int) - 1).toNat * 1]? = some (iv (nth l p : Nat)) := by rw [hx]; exact hgp
      have hset : (ldv l).set ((((p + 1 : Nat) : Int) - 1).toNat * 1) (iv ((nth l p : Nat) + 1)) = ldv (filL (l.set p (nth l p + 1)) (p + 1) 0) := by
        rw [hx, Nat.mul_one]; exact ldv_set l p (nth l p + 1)
      obtain ⟨r, hr⟩ : ∃ r, q' = r + 1 := by
        cases q' with
        | zero => rw [ends, hsc, hsp] at hE; cases hE
        | succ r => exact ⟨r, rfl⟩
      subst hr
      rw [ends, hsc, hsp] at hE
      replace hE : ends v i r (nxtL i p l) = true := hE
      have hlb2 : ∀ q, nth (l.set p (nth l p + 1)) q ≤ 60 + 61 * gv.length + 1 := set_le (fun q => Nat.le_succ_of_le (hlb q)) (Nat.succ_le_succ (hlb p))
      have hl2 : (l.set p (nth l p + 1)).length = i := by rw [List.length_set]; exact hll
      refine WC.seq fun K hK => ?_
      refine WC.seq fun K hK => ?_
      refine WC.region rfl ?_
      refine wG rfl rfl (g_move rfl (.mk (v := .int _ _) rfl rfl)) ?_
      refine wG rfl rfl (g_ge rfl (.mk rfl rfl) (.mk rfl rfl) (decide_eq_true (by omega))) ?_
      refine wG rfl rfl (g_move rfl (.mk (v := .bool _) rfl rfl)) ?_
      refine WL.wantG rfl rfl rfl rfl (WL1.give rfl (g_move rfl (.mk (v := .slice _ _ _) rfl rfl)) ?_)
      refine WL.wantG rfl rfl rfl rfl (WL1.give rfl (g_move rfl (.mk (v := .int _ _) rfl rfl)) ?_)
      refine WL.wantG rfl rfl rfl rfl (WL1.give rfl (g_indexAddr (sz := 1) rfl (.mk rfl rfl) (.mk rfl rfl) rfl rfl (Int.toNat_of_nonneg (by omega)).symm (by omega) (fun _ _ => rfl)) ?_)
      refine WL.wantG rfl rfl rfl rfl (WL1.give rfl (g_load rfl (.mk rfl rfl) rfl (rd_vec (by first | ((repeat (first | exact .head _ | apply List.Mem.tail)); done) | fail) hgp2)) ?_)
      refine WL.wantG rfl rfl rfl rfl (WL1.give rfl (g_move rfl (.mk (v := .int _ _) rfl rfl)) ?_)
      refine WL.wantG rfl rfl rfl rfl (WL1.give rfl (g_move rfl (.mk (v := .int _ _) rfl rfl)) ?_)
      refine WL.wantG rfl rfl rfl rfl (WL1.give rfl (g_sub rfl (.mk rfl rfl) (.mk rfl rfl) (IntWalk.i64_in _ (by omega))) ?_)
      refine WL.wantG rfl rfl rfl rfl (WL1.give rfl (g_move rfl (.mk (v := .int _ _) rfl rfl)) ?_)
      refine WL.wantG rfl rfl rfl rfl (WL1.give rfl (g_add rfl (.mk rfl rfl) (.mk rfl rfl) (IntWalk.i64_in _ (by omega))) ?_)
      refine WL.wantG rfl rfl rfl rfl (WL1.give rfl (g_eq rfl (.mk rfl rfl) (.mk rfl rfl) (decide_eq_false (by omega))) ?_)
      refine wG rfl rfl (g_pickT rfl (.mk rfl rfl) (.mk (v := .bool _) rfl rfl)) ?_
      refine WL.nil ?_
      (refine hK _ _ ?_; clear hK)
      refine WC.cond_false (.mk rfl rfl) ?_
      refine WC.exit ?_
      (clear hK; refine hK _ _ ?_; clear hK)
      refine WC.seq fun K hK => ?_
      refine WC.seq fun K hK => ?_
      refine WC.region rfl ?_
      refine wG rfl rfl (g_move rfl (.mk (v := .int _ _) rfl rfl)) ?_
      refine wG rfl rfl (g_lt rfl (.mk rfl rfl) (.mk rfl rfl) (decide_eq_false (by omega))) ?_
      refine WL.nil ?_
      (refine hK _ _ ?_; clear hK)
      refine WC.cond_false (.mk rfl rfl) ?_
      refine WC.skip ?_
      (refine hK _ _ ?_; clear hK)
      refine WC.seq fun K hK => ?_
      refine WC.region rfl ?_
      refine wG rfl rfl (g_move rfl (.mk (v := .slice _ _ _) rfl rfl)) ?_
      refine wG rfl rfl (g_move rfl (.mk (v := .int _ _) rfl rfl)) ?_
      refine wG rfl rfl (g_indexAddr (sz := 1) rfl (.mk rfl rfl) (.mk rfl rfl) rfl rfl (Int.toNat_of_nonneg (by omega)).symm (by omega) (fun _ _ => rfl)) ?_
      refine wG rfl rfl (g_load rfl (.mk rfl rfl) rfl (rd_vec (by first | ((repeat (first | exact .head _ | apply List.Mem.tail)); done) | fail) hgp2)) ?_
      refine wG rfl rfl (g_add rfl (.mk rfl rfl) (.mk rfl rfl) (IntWalk.i64_in _ (by omega))) ?_
      refine wG rfl rfl (g_indexAddr (sz := 1) rfl (.mk rfl rfl) (.mk rfl rfl) rfl rfl (Int.toNat_of_nonneg (by omega)).symm (by omega) (fun _ _ => rfl)) ?_
      refine WL.want rfl (WL1.storeV1 rfl rfl (.mk rfl rfl) (.mk (v := .int _ _) rfl rfl) rfl rfl (by first | omega | (simp; done) | (simp; omega)) (.head) ?_)
      refine WL.nil ?_
      (refine hK _ _ ?_; clear hK)
      refine WC.seq fun K hK => ?_
      refine WC.region rfl ?_
      refine wG rfl rfl (g_move rfl (.mk (v := .int _ _) rfl rfl)) ?_
      refine wG rfl rfl (g_add rfl (.mk rfl rfl) (.mk rfl rfl) (IntWalk.i64_in _ (by omega))) ?_
      refine wG rfl rfl (g_assign rfl (.mk (v := .int _ _) rfl rfl)) ?_
      refine WL.nil ?_
      (refine hK _ _ ?_; clear hK)
      refine WC.block ?_
      rw [hset]
      refine WC.loop (18888313009973974008320) (fun d : Nat => [(9, iv ((p : Int) + 1 + d))]) (fun d => [vec (some ⟨b13, 0, none⟩) i i 3 1 (ldv (filL (l.set p (nth l p + 1)) (p + 1) d)), pt b5 DT [iv v, .slice A29 (gv.length + 1) c29], vec A29 (gv.length + 1) c29 32 1 gv', pt b4 DT [iv 0, .slice none 0 0]]) (fun d => p + 1 + d ≤ i) (fun d => i - d) 0 ⟨by show iv _ = iv _; congr 1; omega, trivial⟩ (.refl _) (by omega) ?_
      intro d U4 hd
      have hfl := filL_len (l.set p (nth l p + 1)) (p + 1) d
      have hfb := filL_le (j := p + 1) hlb2 d
      have hdl2 := ldv_len (filL (l.set p (nth l p + 1)) (p + 1) d)
      by_cases hlt : p + 1 + d < i
      · have hgd := ldv_get (ld := filL (l.set p (nth l p + 1)) (p + 1) d) (k := p + 1 + d - 1) (by omega)
        have hfs : filL (l.set p (nth l p + 1)) (p + 1) (d + 1) = (filL (l.set p (nth l p + 1)) (p + 1) d).set (p + 1 + d) (nth (filL (l.set p (nth l p + 1)) (p + 1) d) (p + 1 + d - 1) + 1) := rfl
        have hbd := hfb (p + 1 + d - 1)
        have hx2 : ((p : Int) + 1 + d - 1).toNat = p + 1 + d - 1 := by omega
        have hx3 : ((p : Int) + 1 + d).toNat = p + 1 + d := by omega
        rw [← hx2] at hgd
        generalize filL (l.set p (nth l p + 1)) (p + 1) d = f at *
        rw [hx2] at hgd
        have hgd2 : (ldv f)[((p : Int) + 1 + d - 1).toNat * 1]? = some (iv (nth f (p + 1 + d - 1) : Nat)) := by rw [hx2]; exact hgd
        refine WC.seq fun K hK => ?_
        refine WC.seq fun K hK => ?_
        refine WC.region rfl ?_
        refine wG rfl rfl (g_move rfl (.mk (v := .int _ _) rfl rfl)) ?_
        refine wG rfl rfl (g_move rfl (.mk (v := .int _ _) rfl rfl)) ?_
        refine wG rfl rfl (g_lt rfl (.mk rfl rfl) (.mk rfl rfl) (decide_eq_true (by omega))) ?_
        refine WL.nil ?_
        (refine hK _ _ ?_; clear hK)
        refine WC.cond_true (.mk rfl rfl) ?_
        refine WC.skip ?_
        (refine hK _ _ ?_; clear hK)
        refine WC.seq fun K hK => ?_
        refine WC.block ?_
        refine WC.region rfl ?_
        refine wG rfl rfl (g_move rfl (.mk (v := .slice _ _ _) rfl rfl)) ?_
        refine wG rfl rfl (g_move rfl (.mk (v := .int _ _) rfl rfl)) ?_
        refine wG rfl rfl (g_move rfl (.mk (v := .slice _ _ _) rfl rfl)) ?_
        refine wG rfl rfl (g_move rfl (.mk (v := .int _ _) rfl rfl)) ?_
        refine wG rfl rfl (g_sub rfl (.mk rfl rfl) (.mk rfl rfl) (IntWalk.i64_in _ (by omega))) ?_
        refine wG rfl rfl (g_indexAddr (sz := 1) rfl (.mk rfl rfl) (.mk rfl rfl) rfl rfl (Int.toNat_of_nonneg (by omega)).symm (by omega) (fun _ _ => rfl)) ?_
        refine wG rfl rfl (g_load rfl (.mk rfl rfl) rfl (rd_vec (by first | ((repeat (first | exact .head _ | apply List.Mem.tail)); done) | fail) hgd2)) ?_
        refine wG rfl rfl (g_add rfl (.mk rfl rfl) (.mk rfl rfl) (IntWalk.i64_in _ (by omega))) ?_
        refine wG rfl rfl (g_indexAddr (sz := 1) rfl (.mk rfl rfl) (.mk rfl rfl) rfl rfl rfl (by omega) (fun _ _ => rfl)) ?_
        refine WL.want rfl (WL1.storeV1 rfl rfl (.mk rfl rfl) (.mk (v := .int _ _) rfl rfl) rfl rfl (by first | omega | (simp; done) | (simp; omega)) (.head) ?_)
        refine WL.nil ?_
        (refine hK _ _ ?_; clear hK)
        refine WC.region rfl ?_
        refine wG rfl rfl (g_move rfl (.mk (v := .int _ _) rfl rfl)) ?_
        refine wG rfl rfl (g_add rfl (.mk rfl rfl) (.mk rfl rfl) (IntWalk.i64_in _ (by omega))) ?_
        refine wG rfl rfl (g_assign rfl (.mk (v := .int _ _) rfl rfl)) ?_
        refine WL.nil ?_
        have e : ldv (filL (l.set p (nth l p + 1)) (p + 1) (d + 1)) = (ldv f).set (p + 1 + d) (iv ((nth f (p + 1 + d - 1) : Nat) + 1)) := by rw [hfs, ← ldv_set]; rfl
        refine ⟨d + 1, (by repeat (first | with_reducible exact Out.refl _ _ | refine Out.set rfl ?_ | refine Out.put rfl ?_ | refine Out.sets rfl ?_ | refine Out.hav rfl ?_ | exact Out.refl _ _)), ⟨by show iv _ = iv _; congr 1 <;> omega, trivial⟩, ?_, by omega, by omega⟩
        rw [Nat.mul_one, e]
        exact .refl _
      · obtain rfl : i = p + 1 + d := by omega
        refine WC.seq fun K hK => ?_
        refine WC.seq fun K hK => ?_
        refine WC.region rfl ?_
        refine wG rfl rfl (g_move rfl (.mk (v := .int _ _) rfl rfl)) ?_
        refine wG rfl rfl (g_move rfl (.mk (v := .int _ _) rfl rfl)) ?_
        refine wG rfl rfl (g_lt rfl (.mk rfl rfl) (.mk rfl rfl) (decide_eq_false (by omega))) ?_
        refine WL.nil ?_
        (refine hK _ _ ?_; clear hK)
        refine WC.cond_false (.mk rfl rfl) ?_
        refine WC.exit ?_
        have e : nxtL (p + 1 + d) p l = filL (l.set p (nth l p + 1)) (p + 1) d := by unfold nxtL; rw [show p + 1 + d - (p + 1) = d from by omega]
        refine ⟨r, nxtL (p + 1 + d) p l, (A29, c29), gv', (by repeat (first | with_reducible exact Out.refl _ _ | refine Out.set rfl ?_ | refine Out.put rfl ?_ | refine Out.sets rfl ?_ | refine Out.hav rfl ?_ | exact Out.refl _ _)), trivial, ?_, ⟨by omega, hE, by rw [nxtL_len]; exact hll, fun q => ?_, hone'⟩, by omega⟩
        · dsimp only
          rw [hgl, e]
          exact Imp.refl _
        · have := nxtL_le (k := p + 1 + d) (i := p) hlb (by omega) q
          rw [hgl]; omega
end Go.Proofs.Ytdcijljfgcjelaa
