/- Texts joined: Pl11, Pl12, Pl13. The parts say what each of them proves. No condition. -/
import Derived.Test.YtdcijljfgcjelaaJd6
namespace Go.Proofs.Ytdcijljfgcjelaa
set_option maxRecDepth 20000
open Go.RowKit
attribute [local irreducible] Calls
theorem nth_take'' {l : List Nat} {n k : Nat} (h : k < n) : nth (l.take n) k = nth l k := by
  unfold nth; simp [List.getD_eq_getElem?_getD, List.getElem?_take, h]
set_option maxHeartbeats 8000000 in
theorem bal_core {d wd t v k r lam T : Nat} {gs : List (List Nat)} (w : World) (hW : WBal v k r lam gs) (hT1 : 1 ≤ T) (hT3 : T ≤ 3)
    (hch : ∀ w, Calls Try.prog 13 #[.int .u8 d, .int .u8 wd, .int .u8 t, .int .u8 2] w fun e w' => ∃ u M, e = .returned u ∧ H w M w' ∧ ∃ A c rs, ils rs = gs ∧ u = .tuple #[layV v A c rs T 2, .bool true] ∧ M = dsgA A c rs) :
    Calls Try.prog 4 #[.int .u8 d, .int .u8 wd, .int .u8 t] w fun en w' => en = .returned (.bool true) ∧ Below w.heap.size w w' := by
  have hy := hW.y T hT1 hT3
  have hv60 := hy.d.v60
  have hv2 := hy.d.v2
  have hk4 := hy.k4
  have hk6 := hW.k6
  have hcap := hy.cap
  have hgrp := hy.grp
  have hn4 := hy.d.n4
  have mvv : IntKind.i64.wrap ((v : Int) * v) = ((v * v : Nat) : Int) := by
    have : v * v ≤ 60 * 60 := Nat.mul_le_mul hv60 hv60
    rw [← Int.natCast_mul]; exact IntWalk.i64_in _ (by omega)
  obtain ⟨cap, hcp⟩ : ∃ cap, cap = T * r + 2 := ⟨_, rfl⟩
  have mvc : IntKind.i64.wrap ((v : Int) * cap) = ((v * cap : Nat) : Int) := by
    have : v * cap ≤ 60 * 65536 := Nat.mul_le_mul hv60 (by omega)
    rw [← Int.natCast_mul]; exact IntWalk.i64_in _ (by omega)
  have hvv : v * v ≤ 3600 := Nat.mul_le_mul hv60 hv60
  have hvc : v * cap ≤ 60 * 65536 := Nat.mul_le_mul hv60 (by omega)
  have g2 : ∀ (A : Option Addr) (c n j : Nat) (u : Value), ([iv v, .slice A n c] : List Value)[j]? = some u → ([iv v, .slice A n c, iv T, iv 2] : List Value)[0 + (0 + j)]? = some u := fun A c n j u h => pre_get (es := [iv T, iv 2]) (by omega) h
  have g4 : ∀ (A : Option Addr) (c n j : Nat) (u : Value), ([iv v, .slice A n c, iv T, iv 2] : List Value)[j]? = some u → ([iv v, .slice A n c, iv T, iv 2] : List Value)[0 + (0 + j)]? = some u := fun A c n j u h => by rw [Nat.zero_add, Nat.zero_add]; exact h
  have z1 : ldv (List.replicate v 0) = ldv (cntL v (QG gs k 0)) := by rw [show QG gs k 0 = [] from rfl, cntL_zero]
  have z2 : ldv (List.replicate (v * v) 0) = ldv (shM v (PG gs k 0)) := by rw [show PG gs k 0 = [] from rfl, shM_zero]
  have z3 : bls (List.replicate (v * cap) false) = bls (usL v cap (QG gs k 0)) := by rw [show QG gs k 0 = [] from rfl, usL_zero]
  have hblk : ∀ (A : Option Addr) (c : Nat) (rs : List IRow) (w : World), ils rs = gs → IMat w (.slice A rs.length c) rs → Calls Try.prog 16 #[layV v A c rs T 2] w fun e w' => e = .returned (iv cap) ∧ Below w.heap.size w w' := fun A c rs w h hm => by
    have := lblocks_e (s := 2) w (by rw [h]; exact hy) hm
    rwa [show ((T * r : Nat) : Int) + ((2 : Nat) : Int) = (cap : Int) from by omega] at this
  refine calls_wc (args := [.int .u8 d, .int .u8 wd, .int .u8 t]) [6] [] Try.func4 rfl Try.ntmps4 rfl rfl rfl rfl (H.refl _) ?_
  refine WC.seq fun K hK => ?_
  refine WC.region rfl ?_
  refine wG rfl rfl (g_assign rfl (.mk (v := .bool _) rfl rfl)) ?_
  refine WL.nil ?_
  (refine hK _ _ ?_; clear hK)
  refine WC.seq fun K hK => ?_
  refine WC.seq fun K hK => ?_
  refine WC.region rfl ?_
  refine WL.want rfl (WL1.callP rfl rfl rfl .nil (fun w hw => awake_top w) ?_)
  refine wG rfl rfl (g_notT rfl (.mk rfl rfl)) ?_
  refine WL.nil ?_
  (refine hK _ _ ?_; clear hK)
  refine WC.cond_false (.mk rfl rfl) ?_
  refine WC.skip ?_
  (refine hK _ _ ?_; clear hK)
  refine WC.seq fun K hK => ?_
  refine WC.region rfl ?_
  refine wG rfl rfl (g_move rfl (.mk (v := .int _ _) rfl rfl)) ?_
  refine wG rfl rfl (g_move rfl (.mk (v := .int _ _) rfl rfl)) ?_
  refine wG rfl rfl (g_move rfl (.mk (v := .int _ _) rfl rfl)) ?_
  (refine WL.want rfl (WL1.callN rfl rfl rfl (.cons (.mk (v := .int _ _) rfl rfl) (.cons (.mk (v := .int _ _) rfl rfl) (.cons (.mk (v := .int _ _) rfl rfl) (.cons (.mk (v := .int _ _) rfl rfl) .nil)))) (fun w hw => hch w) ?_); rintro _ _ ⟨A, c, rs, hrs, rfl, rfl⟩)
  refine wG rfl rfl (g_move rfl (.mk (v := .tuple _) rfl rfl)) ?_
  refine wG rfl rfl (g_extract rfl (.mk rfl rfl) rfl) ?_
  refine wG rfl rfl (g_extract rfl (.mk rfl rfl) rfl) ?_
  refine WL.want rfl (WL1.alloc rfl rfl rfl rfl (fun b7 => ?_))
  refine WL.want rfl (WL1.storeAll rfl rfl (.mk rfl rfl) (.mk rfl rfl) rfl (all1 rfl) (by first | rfl | (simp [Blk.len]; done)) (.head) ?_)
  refine wG rfl rfl (g_assign rfl (.mk (v := .bool _) rfl rfl)) ?_
  refine WL.nil ?_
  (refine hK _ _ ?_; clear hK)
  refine WC.seq fun K hK => ?_
  refine WC.seq fun K hK => ?_
  refine WC.region rfl ?_
  refine wG rfl rfl (g_move rfl (.mk (v := .bool _) rfl rfl)) ?_
  refine wG rfl rfl (g_notT rfl (.mk rfl rfl)) ?_
  refine WL.nil ?_
  (refine hK _ _ ?_; clear hK)
  refine WC.cond_false (.mk rfl rfl) ?_
  refine WC.skip ?_
  (refine hK _ _ ?_; clear hK)
  refine WC.seq fun K hK => ?_
  refine WC.region rfl ?_
  refine wG rfl rfl (g_fieldAddr (off := 0) rfl (.mk rfl rfl) rfl (fun _ _ => rfl)) ?_
  refine wG rfl rfl (g_loadA rfl (.mk rfl rfl) rfl rfl (rdr_pt (cs := [iv v, .slice A rs.length c]) (by first | ((repeat (first | exact .head _ | apply List.Mem.tail)); done) | fail) (g2 A c rs.length))) ?_
  refine WL.want rfl (WL1.callP rfl rfl rfl (.cons (.mk (v := .agg _) rfl rfl) .nil) (fun w hw => check_d w (by rw [hrs]; exact hy.d) (by rw [hrs]; exact hy.b) (IMat.of_rows hw (by first | ((repeat (first | exact .head _ | apply List.Mem.tail)); done) | fail) (by first | ((repeat (first | exact .head _ | apply List.Mem.tail)); done) | fail) rfl)) ?_)
  refine wG rfl rfl (g_move rfl (.mk (v := .tuple _) rfl rfl)) ?_
  refine wG rfl rfl (g_extract rfl (.mk rfl rfl) rfl) ?_
  refine wG rfl rfl (g_extract rfl (.mk rfl rfl) rfl) ?_
  refine wG rfl rfl (g_extract rfl (.mk rfl rfl) rfl) ?_
  refine wG rfl rfl (g_assign rfl (.mk (v := .int _ _) rfl rfl)) ?_
  refine wG rfl rfl (g_assign rfl (.mk (v := .int _ _) rfl rfl)) ?_
  refine wG rfl rfl (g_assign rfl (.mk (v := .int _ _) rfl rfl)) ?_
  refine WL.nil ?_
  (refine hK _ _ ?_; clear hK)
  refine WC.seq fun K hK => ?_
  refine WC.seq fun K hK => ?_
  refine WC.region rfl ?_
  refine wG rfl rfl (g_move rfl (.mk (v := .int _ _) rfl rfl)) ?_
  refine wG rfl rfl (g_ne rfl (.mk rfl rfl) (.mk rfl rfl) (decide_eq_false (by omega))) ?_
  refine wG rfl rfl (g_move rfl (.mk (v := .bool _) rfl rfl)) ?_
  refine WL.wantG rfl rfl rfl rfl (WL1.give rfl (g_loadA rfl (.mk rfl rfl) rfl rfl (rdr_pt (cs := [iv v, .slice A rs.length c, iv T, iv 2]) (by first | ((repeat (first | exact .head _ | apply List.Mem.tail)); done) | fail) (g4 A c rs.length))) ?_)
  refine WL.wantG rfl rfl rfl rfl (WL1.callP rfl rfl rfl (.cons (.mk (v := .agg _) rfl rfl) .nil) (fun w hw => lvalid_e w (by rw [hrs]; exact hy) (IMat.of_rows hw (by first | ((repeat (first | exact .head _ | apply List.Mem.tail)); done) | fail) (by first | ((repeat (first | exact .head _ | apply List.Mem.tail)); done) | fail) rfl)) ?_)
  refine WL.wantG rfl rfl rfl rfl (WL1.give rfl (g_notT rfl (.mk rfl rfl)) ?_)
  refine wG rfl rfl (g_pickF rfl (.mk rfl rfl) (.mk (v := .bool _) rfl rfl)) ?_
  refine WL.nil ?_
  (refine hK _ _ ?_; clear hK)
  refine WC.cond_false (.mk rfl rfl) ?_
  refine WC.skip ?_
  (refine hK _ _ ?_; clear hK)
  refine WC.seq fun K hK => ?_
  refine WC.region rfl ?_
  refine wG rfl rfl (g_fieldAddr (off := 0) rfl (.mk rfl rfl) rfl (fun _ _ => rfl)) ?_
  refine wG rfl rfl (g_fieldAddr (off := 0) rfl (.mk rfl rfl) rfl (fun _ _ => rfl)) ?_
  refine wG rfl rfl (g_load rfl (.mk rfl rfl) rfl (rd_pt (.head _) rfl)) ?_
  refine wG rfl rfl (g_assign rfl (.mk (v := .int _ _) rfl rfl)) ?_
  refine WL.nil ?_
  (refine hK _ _ ?_; clear hK)
  refine WC.seq fun K hK => ?_
  refine WC.split 0 rfl (by kernel_rfl) (by decide +kernel) ?_
  refine WQ.nil ?_
  refine WY.take 0 rfl (by decide +kernel) (by decide +kernel) (by decide +kernel) rfl rfl (g_move rfl (.mk (v := .int _ _) rfl rfl)) ?_
  refine WY.take 2 rfl (by decide +kernel) (by decide +kernel) (by decide +kernel) rfl rfl (g_move rfl (.mk (v := .int _ _) rfl rfl)) ?_
  refine WY.take 3 rfl (by decide +kernel) (by decide +kernel) (by decide +kernel) rfl rfl (g_move rfl (.mk (v := .int _ _) rfl rfl)) ?_
  refine WY.take 4 rfl (by decide +kernel) (by decide +kernel) (by decide +kernel) rfl rfl (g_mul rfl (.mk rfl rfl) (.mk rfl rfl) mvv) ?_
  refine WY.two 1 5 (by decide +kernel) rfl rfl rfl rfl ?_ ?_
  refine WL1.make elI rfl rfl (.mk rfl rfl) (.mk rfl rfl) rfl rfl (by omega) (by unfold maxLen; omega) (fun b54 => ?_)
  refine WL.nil ?_
  refine WY.take 6 rfl (by decide +kernel) (by decide +kernel) (by decide +kernel) rfl rfl (g_assign rfl (.mk (v := .slice _ _ _) rfl rfl)) ?_
  refine WY.one 5 (by decide +kernel) rfl rfl ?_
  refine WL1.make elI rfl rfl (.mk rfl rfl) (.mk rfl rfl) rfl rfl (by omega) (by unfold maxLen; omega) (fun b58 => ?_)
  refine WL.nil ?_
  refine WY.take 7 rfl (by decide +kernel) (by decide +kernel) (by decide +kernel) rfl rfl (g_assign rfl (.mk (v := .slice _ _ _) rfl rfl)) ?_
  refine WY.done (by decide +kernel) ?_
  (refine hK _ _ ?_; clear hK)
  refine WC.seq fun K hK => ?_
  refine WC.region rfl ?_
  refine wG rfl rfl (g_move rfl (.mk (v := .int _ _) rfl rfl)) ?_
  refine wG rfl rfl (g_loadA rfl (.mk rfl rfl) rfl rfl (rdr_pt (cs := [iv v, .slice A rs.length c, iv T, iv 2]) (by first | ((repeat (first | exact .head _ | apply List.Mem.tail)); done) | fail) (g4 A c rs.length))) ?_
  refine WL.want rfl (WL1.callP rfl rfl rfl (.cons (.mk (v := .agg _) rfl rfl) .nil) (fun w hw => hblk A c rs w hrs (IMat.of_rows hw (by first | ((repeat (first | exact .head _ | apply List.Mem.tail)); done) | fail) (by first | ((repeat (first | exact .head _ | apply List.Mem.tail)); done) | fail) rfl)) ?_)
  refine wG rfl rfl (g_mul rfl (.mk rfl rfl) (.mk rfl rfl) mvc) ?_
  refine WL.want rfl (WL1.make elBo rfl rfl (.mk rfl rfl) (.mk rfl rfl) rfl rfl (by omega) (by unfold maxLen; omega) (fun b63 => ?_))
  refine wG rfl rfl (g_assign rfl (.mk (v := .slice _ _ _) rfl rfl)) ?_
  refine WL.nil ?_
  (refine hK _ _ ?_; clear hK)
  refine WC.seq fun K hK => ?_
  refine WC.seq fun K hK => ?_
  refine WC.region rfl ?_
  refine wG rfl rfl (g_loadA rfl (.mk rfl rfl) rfl rfl (rdr_pt (cs := [iv v, .slice A rs.length c, iv T, iv 2]) (by first | ((repeat (first | exact .head _ | apply List.Mem.tail)); done) | fail) (g4 A c rs.length))) ?_
  refine WL.want rfl (WL1.callP rfl rfl rfl (.cons (.mk (v := .agg _) rfl rfl) .nil) (fun w hw => lgroups_e w (by rw [hrs]; exact hy) (IMat.of_rows hw (by first | ((repeat (first | exact .head _ | apply List.Mem.tail)); done) | fail) (by first | ((repeat (first | exact .head _ | apply List.Mem.tail)); done) | fail) rfl)) ?_)
  refine wG rfl rfl (g_move rfl (.mk (v := .int _ _) rfl rfl)) ?_
  refine WL.nil ?_
  (refine hK _ _ ?_; clear hK)
  refine WC.block ?_
  rotate_left
  refine WL1.make elI rfl rfl (.mk rfl rfl) (.mk rfl rfl) rfl rfl (by omega) (by unfold maxLen; omega) (fun b58 => ?_)
  refine WL.nil ?_
  refine WY.one 1 (by decide +kernel) rfl rfl ?_
  refine WL1.make elI rfl rfl (.mk rfl rfl) (.mk rfl rfl) rfl rfl (by omega) (by unfold maxLen; omega) (fun b54 => ?_)
  refine WL.nil ?_
  refine WY.take 6 rfl (by decide +kernel) (by decide +kernel) (by decide +kernel) rfl rfl (g_assign rfl (.mk (v := .slice _ _ _) rfl rfl)) ?_
  refine WY.take 7 rfl (by decide +kernel) (by decide +kernel) (by decide +kernel) rfl rfl (g_assign rfl (.mk (v := .slice _ _ _) rfl rfl)) ?_
  refine WY.done (by decide +kernel) ?_
  (refine hK _ _ ?_; clear hK)
  refine WC.seq fun K hK => ?_
  refine WC.region rfl ?_
  refine wG rfl rfl (g_move rfl (.mk (v := .int _ _) rfl rfl)) ?_
  refine wG rfl rfl (g_loadA rfl (.mk rfl rfl) rfl rfl (rdr_pt (cs := [iv v, .slice A rs.length c, iv T, iv 2]) (by first | ((repeat (first | exact .head _ | apply List.Mem.tail)); done) | fail) (g4 A c rs.length))) ?_
  refine WL.want rfl (WL1.callP rfl rfl rfl (.cons (.mk (v := .agg _) rfl rfl) .nil) (fun w hw => hblk A c rs w hrs (IMat.of_rows hw (by first | ((repeat (first | exact .head _ | apply List.Mem.tail)); done) | fail) (by first | ((repeat (first | exact .head _ | apply List.Mem.tail)); done) | fail) rfl)) ?_)
  refine wG rfl rfl (g_mul rfl (.mk rfl rfl) (.mk rfl rfl) mvc) ?_
  refine WL.want rfl (WL1.make elBo rfl rfl (.mk rfl rfl) (.mk rfl rfl) rfl rfl (by omega) (by unfold maxLen; omega) (fun b63 => ?_))
  refine wG rfl rfl (g_assign rfl (.mk (v := .slice _ _ _) rfl rfl)) ?_
  refine WL.nil ?_
  (refine hK _ _ ?_; clear hK)
  refine WC.seq fun K hK => ?_
  refine WC.seq fun K hK => ?_
  refine WC.region rfl ?_
  refine wG rfl rfl (g_loadA rfl (.mk rfl rfl) rfl rfl (rdr_pt (cs := [iv v, .slice A rs.length c, iv T, iv 2]) (by first | ((repeat (first | exact .head _ | apply List.Mem.tail)); done) | fail) (g4 A c rs.length))) ?_
  refine WL.want rfl (WL1.callP rfl rfl rfl (.cons (.mk (v := .agg _) rfl rfl) .nil) (fun w hw => lgroups_e w (by rw [hrs]; exact hy) (IMat.of_rows hw (by first | ((repeat (first | exact .head _ | apply List.Mem.tail)); done) | fail) (by first | ((repeat (first | exact .head _ | apply List.Mem.tail)); done) | fail) rfl)) ?_)
  refine wG rfl rfl (g_move rfl (.mk (v := .int _ _) rfl rfl)) ?_
  refine WL.nil ?_
  (refine hK _ _ ?_; clear hK)
  refine WC.block ?_
  rotate_left
  · refine WC.imp (M := vec (some ⟨b63, 0, none⟩) (v * cap) (v * cap) 4 1 (bls (usL v cap (QG gs k 0))) :: vec (some ⟨b54, 0, none⟩) v v 3 1 (ldv (cntL v (QG gs k 0))) :: vec (some ⟨b58, 0, none⟩) (v * v) (v * v) 3 1 (ldv (shM v (PG gs k 0))) :: pt b7 LT [iv v, .slice A rs.length c, iv T, iv 2] :: vec A rs.length c 32 1 (rs.map IRow.v) :: rowsI rs :: []) (by
      rw [made_iv, made_iv, made_bo, z1, z2, z3]
      exact Imp.pick (by repeat (first | exact .head | apply Take.tail)) (Imp.pick (by repeat (first | exact .head | apply Take.tail)) (Imp.pick (by repeat (first | exact .head | apply Take.tail)) (Imp.pick (by repeat (first | exact .head | apply Take.tail)) (Imp.pick (by repeat (first | exact .head | apply Take.tail)) (Imp.pick (by repeat (first | exact .head | apply Take.tail)) (Imp.nil _))))))) ?_
    refine WC.loop (5986310706507378352962293074805821461534404864049216) (fun g : Nat => [(66, iv g)]) (fun g => vec (some ⟨b63, 0, none⟩) (v * cap) (v * cap) 4 1 (bls (usL v cap (QG gs k g))) :: vec (some ⟨b54, 0, none⟩) v v 3 1 (ldv (cntL v (QG gs k g))) :: vec (some ⟨b58, 0, none⟩) (v * v) (v * v) 3 1 (ldv (shM v (PG gs k g))) :: pt b7 LT [iv v, .slice A rs.length c, iv T, iv 2] :: vec A rs.length c 32 1 (rs.map IRow.v) :: rowsI rs :: []) (fun g => g ≤ T * rs.length) (fun g => T * rs.length - g) 0 ⟨rfl, trivial⟩ (.refl _) (by omega) ?_
    intro g U hg
    by_cases hgl : g < T * rs.length
    · obtain ⟨tt, ht⟩ : ∃ tt, tt = g / rs.length := ⟨_, rfl⟩
      obtain ⟨g0, hg0⟩ : ∃ g0, g0 = g % rs.length := ⟨_, rfl⟩
      have hpos : 0 < rs.length := Nat.pos_of_ne_zero (fun h => by rw [h] at hgl; omega)
      have hgg : g = tt * rs.length + g0 := by rw [ht, hg0, Nat.mul_comm]; exact (Nat.div_add_mod g rs.length).symm
      have hg0l : g0 < rs.length := by rw [hg0]; exact Nat.mod_lt _ hpos
      have htT : tt < T := by rw [ht]; exact Nat.div_lt_of_lt_mul (by rw [Nat.mul_comm]; exact hgl)
      have hrl := rowR_len gs k g
      have hgln : gs.length = rs.length := by rw [← hrs]; exact List.length_map _
      have hg4 : g ≤ 4096 := by rw [hgln] at hgrp; omega
      have hstep := fun p (hp : p < k) => hW.step (t := tt) (g0 := g0) (p := p) (by omega) (by omega) hp
      rw [hgln, ← hgg] at hstep
      have hhm := fun p (hp : p < k) w (hm : IMat w (.slice A rs.length c) rs) => lhome_e (T := tt) (g0 := g0) (p := p) (G := g) w (by rw [hrs]; exact hy : Lay v k r lam (ils rs) T 2) hm hgg hg0l htT hp
      rw [hrs] at hhm
      have hPl := PG_len gs (k := k) g
      have hQn : QG gs k (g + 1) = QG gs k g ++ rowR gs k g := rfl
      have hPn : PG gs k (g + 1) = PG gs k g ++ prN (rowR gs k g) k := rfl

      generalize QG gs k g = Q0 at *
      generalize PG gs k g = P0 at *
      generalize rowR gs k g = rw0 at *
      refine WC.seq fun K hK => ?_
      refine WC.region rfl ?_
      refine wG rfl rfl (g_lt rfl (.mk rfl rfl) (.mk rfl rfl) (decide_eq_true (by omega))) ?_
      refine WL.nil ?_
      (refine hK _ _ ?_; clear hK)
      refine WC.seq fun K hK => ?_
      refine WC.cond_true (.mk rfl rfl) ?_
      refine WC.skip ?_
      (refine hK _ _ ?_; clear hK)
      refine WC.seq fun K hK => ?_
      refine WC.block ?_
      refine WC.seq fun K hK => ?_
      refine WC.region rfl ?_
      refine wG rfl rfl (g_move rfl (.mk (v := .int _ _) rfl rfl)) ?_
      refine wG rfl rfl (g_assign rfl (.mk (v := .int _ _) rfl rfl)) ?_
      refine WL.nil ?_
      (refine hK _ _ ?_; clear hK)
      refine WC.seq fun K hK => ?_
      refine WC.region rfl ?_
      refine wG rfl rfl (g_assign rfl (.mk (v := .slice _ _ _) rfl rfl)) ?_
      refine WL.nil ?_
      (refine hK _ _ ?_; clear hK)
      refine WC.seq fun K hK => ?_
      refine WC.region rfl ?_
      refine wG rfl rfl (g_loadA rfl (.mk rfl rfl) rfl rfl (rdr_pt (cs := [iv v, .slice A rs.length c, iv T, iv 2]) (by first | ((repeat (first | exact .head _ | apply List.Mem.tail)); done) | fail) (g4 A c rs.length))) ?_
      refine WL.want rfl (WL1.callP rfl rfl rfl (.cons (.mk (v := .agg _) rfl rfl) .nil) (fun w hw => lwidth_e w (by rw [hrs]; exact hy) (IMat.of_rows hw (by first | ((repeat (first | exact .head _ | apply List.Mem.tail)); done) | fail) (by first | ((repeat (first | exact .head _ | apply List.Mem.tail)); done) | fail) rfl)) ?_)
      refine wG rfl rfl (g_move rfl (.mk (v := .int _ _) rfl rfl)) ?_
      refine WL.nil ?_
      (refine hK _ _ ?_; clear hK)
      refine WC.block ?_
      refine WC.nilvec 3 1 ?_
      have e0 : Q0 ++ rw0.take 0 = Q0 := by rw [List.take_zero, List.append_nil]
      have e00 : P0 ++ prN rw0 0 = P0 := List.append_nil _
      refine WC.loopI2 (2993155353253689176481146537400586441013915031568448) (fun (p : Nat) (X : Option Addr × Nat) => [(71, iv p), (17, .slice X.1 p X.2)]) (fun p X => vec (some ⟨b63, 0, none⟩) (v * cap) (v * cap) 4 1 (bls (usL v cap (Q0 ++ rw0.take p))) :: vec (some ⟨b54, 0, none⟩) v v 3 1 (ldv (cntL v (Q0 ++ rw0.take p))) :: vec (some ⟨b58, 0, none⟩) (v * v) (v * v) 3 1 (ldv (shM v (P0 ++ prN rw0 p))) :: pt b7 LT [iv v, .slice A rs.length c, iv T, iv 2] :: vec A rs.length c 32 1 (rs.map IRow.v) :: rowsI rs :: vec X.1 p X.2 3 1 (ldv (rw0.take p)) :: []) (fun p _ => p ≤ k) (fun p _ => k - p) 0 (none, 0) ⟨rfl, rfl, trivial⟩ (by rw [e0, e00]; exact Imp.pick (by repeat (first | exact .head | apply Take.tail)) (Imp.pick (by repeat (first | exact .head | apply Take.tail)) (Imp.pick (by repeat (first | exact .head | apply Take.tail)) (Imp.pick (by repeat (first | exact .head | apply Take.tail)) (Imp.pick (by repeat (first | exact .head | apply Take.tail)) (Imp.pick (by repeat (first | exact .head | apply Take.tail)) (Imp.pick (by repeat (first | exact .head | apply Take.tail)) (Imp.nil _)))))))) (by omega) ?_
      rintro p ⟨X, cX⟩ U2 hp
      dsimp only
      by_cases hpk : p < k
      · obtain ⟨D, d1, d2, dv, dB, dle, dne⟩ := hstep p hpk
        have hh := hhm p hpk
        rw [d2] at hh
        obtain ⟨B, hB⟩ : ∃ B, B = tt * r + rkF gs g0 ((p + tt) % k) := ⟨_, rfl⟩
        rw [← hB] at hh dB dle
        have hTr : (tt + 1) * r ≤ T * r := Nat.mul_le_mul_right _ htT
        rw [Nat.succ_mul] at hTr
        have hBc : B < cap := by omega
        have e1 : Q0 ++ rw0.take p ++ [D] = Q0 ++ rw0.take (p + 1) := by rw [List.append_assoc, ← d1, ← take_snoc (by omega)]
        have hPn2 : (prN rw0 p).length ≤ p * (2 * k) := prN_len rw0 p (by omega)
        have hDc : D * cap + B < v * cap := at_lt dv hBc
        have mDc : IntKind.i64.wrap ((D : Int) * cap) = ((D * cap : Nat) : Int) := by rw [← Int.natCast_mul]; exact IntWalk.i64_in _ (by omega)
        have aDc : IntKind.i64.wrap (((D * cap : Nat) : Int) + B) = ((D * cap + B : Nat) : Int) := by rw [← Int.natCast_add]; exact IntWalk.i64_in _ (by omega)
        have hus : (bls (usL v cap (Q0 ++ rw0.take p)))[(D * cap + B) * 1]? = some (.bool false) := by rw [bls_get (by rw [usL_len]; exact hDc), usL_at _ dv hBc, decide_eq_false (by omega)]
        have hus2 : (bls (usL v cap (Q0 ++ rw0.take p))).set (D * cap + B) (.bool true) = bls (usL v cap (Q0 ++ rw0.take (p + 1))) := by rw [bls_set, usL_set _ dv hBc dB, e1]
        have hct : (ldv (cntL v (Q0 ++ rw0.take p)))[D * 1]? = some (iv B) := by rw [ldv_get (by rw [cntL_len]; exact dv), cntL_at _ dv, ← dB]
        have hct2 : (ldv (cntL v (Q0 ++ rw0.take p))).set D (iv ((B : Int) + 1)) = ldv (cntL v (Q0 ++ rw0.take (p + 1))) := by rw [show (B : Int) + 1 = ((B + 1 : Nat) : Int) from rfl, ldv_set, dB, cntL_set _ dv, e1]
        generalize hIX : D * cap + B = IX at *
        generalize hDX : D * cap = DX at *
        have hul := bls_len (usL v cap (Q0 ++ rw0.take p))
        rw [usL_len] at hul
        have hcl := ldv_len (cntL v (Q0 ++ rw0.take p))
        rw [cntL_len] at hcl
        generalize bls (usL v cap (Q0 ++ rw0.take p)) = us at *
        generalize ldv (cntL v (Q0 ++ rw0.take p)) = ct at *
        refine WC.seq fun K hK => ?_
        refine WC.region rfl ?_
        refine wG rfl rfl (g_lt rfl (.mk rfl rfl) (.mk rfl rfl) (decide_eq_true (by omega))) ?_
        refine WL.nil ?_
        (refine hK _ _ ?_; clear hK)
        refine WC.seq fun K hK => ?_
        refine WC.cond_true (.mk rfl rfl) ?_
        refine WC.skip ?_
        (refine hK _ _ ?_; clear hK)
        refine WC.seq fun K hK => ?_
        refine WC.block ?_
        refine WC.seq fun K hK => ?_
        refine WC.region rfl ?_
        refine wG rfl rfl (g_move rfl (.mk (v := .int _ _) rfl rfl)) ?_
        refine wG rfl rfl (g_assign rfl (.mk (v := .int _ _) rfl rfl)) ?_
        refine WL.nil ?_
        (refine hK _ _ ?_; clear hK)
        refine WC.seq fun K hK => ?_
        refine WC.region rfl ?_
        refine wG rfl rfl (g_loadA rfl (.mk rfl rfl) rfl rfl (rdr_pt (cs := [iv v, .slice A rs.length c, iv T, iv 2]) (by first | ((repeat (first | exact .head _ | apply List.Mem.tail)); done) | fail) (g4 A c rs.length))) ?_
        refine wG rfl rfl (g_move rfl (.mk (v := .int _ _) rfl rfl)) ?_
        refine wG rfl rfl (g_move rfl (.mk (v := .int _ _) rfl rfl)) ?_
        refine WL.want rfl (WL1.callP rfl rfl rfl (.cons (.mk (v := .agg _) rfl rfl) (.cons (.mk (v := .int _ _) rfl rfl) (.cons (.mk (v := .int _ _) rfl rfl) .nil))) (fun w hw => hh w (IMat.of_rows hw (by first | ((repeat (first | exact .head _ | apply List.Mem.tail)); done) | fail) (by first | ((repeat (first | exact .head _ | apply List.Mem.tail)); done) | fail) rfl)) ?_)
        refine wG rfl rfl (g_move rfl (.mk (v := .tuple _) rfl rfl)) ?_
        refine wG rfl rfl (g_extract rfl (.mk rfl rfl) rfl) ?_
        refine wG rfl rfl (g_extract rfl (.mk rfl rfl) rfl) ?_
        refine WL.want rfl (WL1.alloc rfl rfl rfl rfl (fun b19 => ?_))
        refine WL.want rfl (WL1.storeAll rfl rfl (.mk rfl rfl) (.mk rfl rfl) rfl (all1 rfl) (by first | rfl | (simp [Blk.len]; done)) (.head) ?_)
        refine wG rfl rfl (g_assign rfl (.mk (v := .int _ _) rfl rfl)) ?_
        refine WL.nil ?_
        (refine hK _ _ ?_; clear hK)
        refine WC.seq fun K hK => ?_
        refine WC.seq fun K hK => ?_
        refine WC.quiet rfl (by kernel_rfl) (by decide +kernel) ?_
        refine WQ.want rfl (WQ1.give rfl (g_move rfl (.mk (v := .int _ _) rfl rfl)) ?_)
        refine WQ.want rfl (WQ1.give rfl (g_ne rfl (.mk rfl rfl) (.mk rfl rfl) (decide_eq_false (by omega))) ?_)
        refine WQ.want rfl (WQ1.give rfl (g_move rfl (.mk (v := .bool _) rfl rfl)) ?_)
        refine WQ.wantG rfl rfl rfl rfl (WQ1.give rfl (g_fieldAddr (off := 0) rfl (.mk rfl rfl) rfl (fun _ _ => rfl)) ?_)
        refine WQ.wantG rfl rfl rfl rfl (WQ1.give rfl (g_load rfl (.mk rfl rfl) rfl (rd_pt (.head _) rfl)) ?_)
        refine WQ.wantG rfl rfl rfl rfl (WQ1.give rfl (g_lt rfl (.mk rfl rfl) (.mk rfl rfl) (decide_eq_false (by omega))) ?_)
        refine WQ.want rfl (WQ1.give rfl (g_pickF rfl (.mk rfl rfl) (.mk (v := .bool _) rfl rfl)) ?_)
        refine WQ.want rfl (WQ1.give rfl (g_move rfl (.mk (v := .bool _) rfl rfl)) ?_)
        refine WQ.wantG rfl rfl rfl rfl (WQ1.give rfl (g_fieldAddr (off := 0) rfl (.mk rfl rfl) rfl (fun _ _ => rfl)) ?_)
        refine WQ.wantG rfl rfl rfl rfl (WQ1.give rfl (g_load rfl (.mk rfl rfl) rfl (rd_pt (.head _) rfl)) ?_)
        refine WQ.wantG rfl rfl rfl rfl (WQ1.give rfl (g_move rfl (.mk (v := .int _ _) rfl rfl)) ?_)
        refine WQ.wantG rfl rfl rfl rfl (WQ1.give rfl (g_ge rfl (.mk rfl rfl) (.mk rfl rfl) (decide_eq_false (by omega))) ?_)
        refine WQ.want rfl (WQ1.give rfl (g_pickF rfl (.mk rfl rfl) (.mk (v := .bool _) rfl rfl)) ?_)
        refine WQ.want rfl (WQ1.give rfl (g_move rfl (.mk (v := .bool _) rfl rfl)) ?_)
        refine WQ.wantG rfl rfl rfl rfl (WQ1.give rfl (g_fieldAddr (off := 1) rfl (.mk rfl rfl) rfl (fun _ _ => rfl)) ?_)
        refine WQ.wantG rfl rfl rfl rfl (WQ1.give rfl (g_load rfl (.mk rfl rfl) rfl (rd_pt (.head _) rfl)) ?_)
        refine WQ.wantG rfl rfl rfl rfl (WQ1.give rfl (g_lt rfl (.mk rfl rfl) (.mk rfl rfl) (decide_eq_false (by omega))) ?_)
        refine WQ.want rfl (WQ1.give rfl (g_pickF rfl (.mk rfl rfl) (.mk (v := .bool _) rfl rfl)) ?_)
        refine WQ.want rfl (WQ1.give rfl (g_move rfl (.mk (v := .bool _) rfl rfl)) ?_)
        refine WQ.wantG rfl rfl rfl rfl (WQ1.give rfl (g_fieldAddr (off := 1) rfl (.mk rfl rfl) rfl (fun _ _ => rfl)) ?_)
        refine WQ.wantG rfl rfl rfl rfl (WQ1.give rfl (g_load rfl (.mk rfl rfl) rfl (rd_pt (.head _) rfl)) ?_)
        refine WQ.wantG rfl rfl rfl rfl (WQ1.give rfl (g_loadA rfl (.mk rfl rfl) rfl rfl (rdr_pt (cs := [iv v, .slice A rs.length c, iv T, iv 2]) (by first | ((repeat (first | exact .head _ | apply List.Mem.tail)); done) | fail) (g4 A c rs.length))) ?_)
        refine WQ.wantG rfl rfl rfl rfl (WQ1.callP rfl rfl rfl (.cons (.mk (v := .agg _) rfl rfl) .nil) (fun w hw => hblk A c rs w hrs (IMat.of_rows hw (by first | ((repeat (first | exact .head _ | apply List.Mem.tail)); done) | fail) (by first | ((repeat (first | exact .head _ | apply List.Mem.tail)); done) | fail) rfl)) ?_)
        refine WQ.wantG rfl rfl rfl rfl (WQ1.give rfl (g_ge rfl (.mk rfl rfl) (.mk rfl rfl) (decide_eq_false (by omega))) ?_)
        refine WQ.want rfl (WQ1.give rfl (g_pickF rfl (.mk rfl rfl) (.mk (v := .bool _) rfl rfl)) ?_)
        refine WQ.want rfl (WQ1.give rfl (g_move rfl (.mk (v := .bool _) rfl rfl)) ?_)
        refine WQ.wantG rfl rfl rfl rfl (WQ1.give rfl (g_move rfl (.mk (v := .slice _ _ _) rfl rfl)) ?_)
        refine WQ.wantG rfl rfl rfl rfl (WQ1.give rfl (g_fieldAddr (off := 0) rfl (.mk rfl rfl) rfl (fun _ _ => rfl)) ?_)
        refine WQ.wantG rfl rfl rfl rfl (WQ1.give rfl (g_load rfl (.mk rfl rfl) rfl (rd_pt (.head _) rfl)) ?_)
        refine WQ.wantG rfl rfl rfl rfl (WQ1.give rfl (g_loadA rfl (.mk rfl rfl) rfl rfl (rdr_pt (cs := [iv v, .slice A rs.length c, iv T, iv 2]) (by first | ((repeat (first | exact .head _ | apply List.Mem.tail)); done) | fail) (g4 A c rs.length))) ?_)
        refine WQ.wantG rfl rfl rfl rfl (WQ1.callP rfl rfl rfl (.cons (.mk (v := .agg _) rfl rfl) .nil) (fun w hw => hblk A c rs w hrs (IMat.of_rows hw (by first | ((repeat (first | exact .head _ | apply List.Mem.tail)); done) | fail) (by first | ((repeat (first | exact .head _ | apply List.Mem.tail)); done) | fail) rfl)) ?_)
        refine WQ.wantG rfl rfl rfl rfl (WQ1.give rfl (g_mul rfl (.mk rfl rfl) (.mk rfl rfl) mDc) ?_)
        refine WQ.wantG rfl rfl rfl rfl (WQ1.give rfl (g_fieldAddr (off := 1) rfl (.mk rfl rfl) rfl (fun _ _ => rfl)) ?_)
        refine WQ.wantG rfl rfl rfl rfl (WQ1.give rfl (g_load rfl (.mk rfl rfl) rfl (rd_pt (.head _) rfl)) ?_)
        refine WQ.wantG rfl rfl rfl rfl (WQ1.give rfl (g_add rfl (.mk rfl rfl) (.mk rfl rfl) aDc) ?_)
        refine WQ.wantG rfl rfl rfl rfl (WQ1.give rfl (g_indexAddr (sz := 1) rfl (.mk rfl rfl) (.mk rfl rfl) rfl rfl rfl (by omega) (fun _ _ => rfl)) ?_)
        refine WQ.wantG rfl rfl rfl rfl (WQ1.give rfl (g_load rfl (.mk rfl rfl) rfl (rd_vec (by first | ((repeat (first | exact .head _ | apply List.Mem.tail)); done) | fail) hus)) ?_)
        refine WQ.want rfl (WQ1.give rfl (g_pickF rfl (.mk rfl rfl) (.mk (v := .bool _) rfl rfl)) ?_)
        refine WQ.nil ?_
        (refine hK _ _ ?_; clear hK)
        refine WC.cond_false (.mk rfl rfl) ?_
        refine WC.skip ?_
        (refine hK _ _ ?_; clear hK)
        refine WC.seq fun K hK => ?_
        refine WC.untilL [10] rfl (by kernel_rfl) ?_
        refine WB.takeP 0 rfl (by decide +kernel) (by decide +kernel) (by decide +kernel) (by decide +kernel) rfl rfl (.inr (Imp.sub (by first | ((repeat (first | exact List.nil_sublist _ | exact List.Sublist.refl _ | apply List.Sublist.cons_cons | apply List.Sublist.cons)); done) | fail))) (g_move rfl (.mk (v := .slice _ _ _) rfl rfl)) ?_
        refine WB.takeP 1 rfl (by decide +kernel) (by decide +kernel) (by decide +kernel) (by decide +kernel) rfl rfl (.inr (Imp.sub (by first | ((repeat (first | exact List.nil_sublist _ | exact List.Sublist.refl _ | apply List.Sublist.cons_cons | apply List.Sublist.cons)); done) | fail))) (g_fieldAddr (off := 0) rfl (.mk rfl rfl) rfl (fun _ _ => rfl)) ?_
        refine WB.take 2 rfl (by decide +kernel) (by decide +kernel) (by decide +kernel) (by decide +kernel) rfl rfl (Imp.sub (by first | ((repeat (first | exact List.nil_sublist _ | exact List.Sublist.refl _ | apply List.Sublist.cons_cons | apply List.Sublist.cons)); done) | fail)) (g_load rfl (.mk rfl rfl) rfl (rd_pt (.head _) rfl)) ?_
        refine WB.take 3 rfl (by decide +kernel) (by decide +kernel) (by decide +kernel) (by decide +kernel) rfl rfl (Imp.sub (by first | ((repeat (first | exact List.nil_sublist _ | exact List.Sublist.refl _ | apply List.Sublist.cons_cons | apply List.Sublist.cons)); done) | fail)) (g_loadA rfl (.mk rfl rfl) rfl rfl (rdr_pt (cs := [iv v, .slice A rs.length c, iv T, iv 2]) (by first | ((repeat (first | exact .head _ | apply List.Mem.tail)); done) | fail) (g4 A c rs.length))) ?_
        refine WB.takeP 6 rfl (by decide +kernel) (by decide +kernel) (by decide +kernel) (by decide +kernel) rfl rfl (.inr (Imp.sub (by first | ((repeat (first | exact List.nil_sublist _ | exact List.Sublist.refl _ | apply List.Sublist.cons_cons | apply List.Sublist.cons)); done) | fail))) (g_fieldAddr (off := 1) rfl (.mk rfl rfl) rfl (fun _ _ => rfl)) ?_
        refine WB.take 7 rfl (by decide +kernel) (by decide +kernel) (by decide +kernel) (by decide +kernel) rfl rfl (Imp.sub (by first | ((repeat (first | exact List.nil_sublist _ | exact List.Sublist.refl _ | apply List.Sublist.cons_cons | apply List.Sublist.cons)); done) | fail)) (g_load rfl (.mk rfl rfl) rfl (rd_pt (.head _) rfl)) ?_
        refine WB.one 4 (by decide +kernel) rfl rfl ?_
        refine WL1.callP rfl rfl rfl (.cons (.mk (v := .agg _) rfl rfl) .nil) (fun w hw => hblk A c rs w hrs (IMat.of_rows hw (by first | ((repeat (first | exact .head _ | apply List.Mem.tail)); done) | fail) (by first | ((repeat (first | exact .head _ | apply List.Mem.tail)); done) | fail) rfl)) ?_
        refine WL.nil ?_
        refine ⟨.inr (Imp.sub (by first | ((repeat (first | exact List.nil_sublist _ | exact List.Sublist.refl _ | apply List.Sublist.cons_cons | apply List.Sublist.cons)); done) | fail)), ?_⟩
        refine WB.takeP 5 rfl (by decide +kernel) (by decide +kernel) (by decide +kernel) (by decide +kernel) rfl rfl (.inr (Imp.sub (by first | ((repeat (first | exact List.nil_sublist _ | exact List.Sublist.refl _ | apply List.Sublist.cons_cons | apply List.Sublist.cons)); done) | fail))) (g_mul rfl (.mk rfl rfl) (.mk rfl rfl) mDc) ?_
        refine WB.takeP 8 rfl (by decide +kernel) (by decide +kernel) (by decide +kernel) (by decide +kernel) rfl rfl (.inr (Imp.sub (by first | ((repeat (first | exact List.nil_sublist _ | exact List.Sublist.refl _ | apply List.Sublist.cons_cons | apply List.Sublist.cons)); done) | fail))) (g_add rfl (.mk rfl rfl) (.mk rfl rfl) aDc) ?_
        refine WB.takeP 9 rfl (by decide +kernel) (by decide +kernel) (by decide +kernel) (by decide +kernel) rfl rfl (.inr (Imp.sub (by first | ((repeat (first | exact List.nil_sublist _ | exact List.Sublist.refl _ | apply List.Sublist.cons_cons | apply List.Sublist.cons)); done) | fail))) (g_indexAddr (sz := 1) rfl (.mk rfl rfl) (.mk rfl rfl) rfl rfl rfl (by omega) (fun _ _ => rfl)) ?_
        refine WB.one 10 (by decide +kernel) rfl rfl ?_
        refine WL1.storeV1 rfl rfl (.mk rfl rfl) (.mk (v := .bool _) rfl rfl) rfl rfl (by first | omega | (simp; done) | (simp; omega)) (.tail (.head)) ?_
        refine WL.nil ?_
        refine ⟨.inl (by decide +kernel), ?_⟩
        refine WB.done (by decide +kernel) ?_
        (refine hK _ _ ?_; clear hK)
        refine WC.seq fun K hK => ?_
        refine WC.region rfl ?_
        refine wG rfl rfl (g_move rfl (.mk (v := .slice _ _ _) rfl rfl)) ?_
        refine wG rfl rfl (g_fieldAddr (off := 0) rfl (.mk rfl rfl) rfl (fun _ _ => rfl)) ?_
        refine wG rfl rfl (g_load rfl (.mk rfl rfl) rfl (rd_pt (.head _) rfl)) ?_
        refine wG rfl rfl (g_indexAddr (sz := 1) rfl (.mk rfl rfl) (.mk rfl rfl) rfl rfl rfl (by omega) (fun _ _ => rfl)) ?_
        refine wG rfl rfl (g_load rfl (.mk rfl rfl) rfl (rd_vec (by first | ((repeat (first | exact .head _ | apply List.Mem.tail)); done) | fail) hct)) ?_
        refine wG rfl rfl (g_add rfl (.mk rfl rfl) (.mk rfl rfl) (IntWalk.i64_in _ (by omega))) ?_
        refine wG rfl rfl (g_indexAddr (sz := 1) rfl (.mk rfl rfl) (.mk rfl rfl) rfl rfl rfl (by omega) (fun _ _ => rfl)) ?_
        refine WL.want rfl (WL1.storeV1 rfl rfl (.mk rfl rfl) (.mk (v := .int _ _) rfl rfl) rfl rfl (by first | omega | (simp; done) | (simp; omega)) (.tail (.tail (.head))) ?_)
        refine WL.nil ?_
        (refine hK _ _ ?_; clear hK)
        refine WC.seq fun K hK => ?_
        refine WC.seq fun K hK => ?_
        refine WC.region rfl ?_
        refine wG rfl rfl (g_move rfl (.mk (v := .slice _ _ _) rfl rfl)) ?_
        refine wG rfl rfl (g_len rfl (.mk rfl rfl) rfl) ?_
        refine wG rfl rfl (g_move rfl (.mk (v := .int _ _) rfl rfl)) ?_
        refine WL.nil ?_
        (refine hK _ _ ?_; clear hK)
        refine WC.block ?_
        have hP2 : g * (k * (2 * k)) ≤ 4096 * 72 := Nat.mul_le_mul (by omega) (Nat.mul_le_mul hk6 (Nat.mul_le_mul_left 2 hk6) : k * (2 * k) ≤ 6 * (2 * 6))
        have hP3 : p * (2 * k) ≤ 6 * 12 := Nat.mul_le_mul (by omega) (by omega)
        refine WC.imp (M := vec (some ⟨b58, 0, none⟩) (v * v) (v * v) 3 1 (ldv (shM v (P0 ++ prN rw0 p ++ []))) :: vec (some ⟨b63, 0, none⟩) (v * cap) (v * cap) 4 1 (bls (usL v cap (Q0 ++ rw0.take (p + 1)))) :: vec (some ⟨b54, 0, none⟩) v v 3 1 (ldv (cntL v (Q0 ++ rw0.take (p + 1)))) :: pt b7 LT [iv v, .slice A rs.length c, iv T, iv 2] :: vec A rs.length c 32 1 (rs.map IRow.v) :: rowsI rs :: vec X p cX 3 1 (ldv (rw0.take p)) :: pt b19 PT [iv D, iv B] :: []) (by
          rw [show IX * 1 = IX from Nat.mul_one _, show D * 1 = D from Nat.mul_one _, hus2, show Value.int IntKind.i64 ((B : Int) + 1) = iv ((B : Int) + 1) from rfl, hct2, List.append_nil]
          exact Imp.pick (by repeat (first | exact .head | apply Take.tail)) (Imp.pick (by repeat (first | exact .head | apply Take.tail)) (Imp.pick (by repeat (first | exact .head | apply Take.tail)) (Imp.pick (by repeat (first | exact .head | apply Take.tail)) (Imp.pick (by repeat (first | exact .head | apply Take.tail)) (Imp.pick (by repeat (first | exact .head | apply Take.tail)) (Imp.pick (by repeat (first | exact .head | apply Take.tail)) (Imp.pick (by repeat (first | exact .head | apply Take.tail)) (Imp.nil _))))))))) ?_
        refine WC.loop (46768052046139749655476928060425458618859197038592) (fun e : Nat => [(138, iv e)]) (fun e => vec (some ⟨b58, 0, none⟩) (v * v) (v * v) 3 1 (ldv (shM v (P0 ++ prN rw0 p ++ ((rw0.take e).flatMap fun d => [(d, D), (D, d)])))) :: vec (some ⟨b63, 0, none⟩) (v * cap) (v * cap) 4 1 (bls (usL v cap (Q0 ++ rw0.take (p + 1)))) :: vec (some ⟨b54, 0, none⟩) v v 3 1 (ldv (cntL v (Q0 ++ rw0.take (p + 1)))) :: pt b7 LT [iv v, .slice A rs.length c, iv T, iv 2] :: vec A rs.length c 32 1 (rs.map IRow.v) :: rowsI rs :: vec X p cX 3 1 (ldv (rw0.take p)) :: pt b19 PT [iv D, iv B] :: []) (fun e => e ≤ p) (fun e => p - e) 0 ⟨rfl, trivial⟩ (.refl _) (by omega) ?_
        intro e U3 he
        by_cases hep : e < p
        · obtain ⟨dd, hd1, -, hdv, -, -, -⟩ := hstep e (by omega)
          have hlt : (rw0.take p).length = p := by rw [List.length_take]; omega
          have hgX : (ldv (rw0.take p))[e * 1]? = some (iv dd) := by rw [ldv_get (by omega), nth_take'' hep, hd1]
          have hfl : (rw0.take (e + 1)).flatMap (fun d => [(d, D), (D, d)]) = (rw0.take e).flatMap (fun d => [(d, D), (D, d)]) ++ [(dd, D)] ++ [(D, dd)] := by rw [take_snoc (by omega), List.flatMap_append, hd1, List.append_assoc]; rfl
          have hfn : ((rw0.take e).flatMap (fun d => [(d, D), (D, d)])).length ≤ 2 * 6 := by
            have h3 : ∀ q : List Nat, (q.flatMap fun d => [(d, D), (D, d)]).length = 2 * q.length := fun q => by
              induction q with
              | nil => rfl
              | cons x q ih => rw [List.flatMap_cons, List.length_append, ih]; show 2 + 2 * q.length = 2 * (q.length + 1); omega
            rw [h3, List.length_take]; omega
          have hPE : P0 ++ prN rw0 p ++ (rw0.take (e + 1)).flatMap (fun d => [(d, D), (D, d)]) = P0 ++ prN rw0 p ++ (rw0.take e).flatMap (fun d => [(d, D), (D, d)]) ++ [(dd, D)] ++ [(D, dd)] := by rw [hfl, ← List.append_assoc, ← List.append_assoc]
          have hPEn : (P0 ++ prN rw0 p ++ (rw0.take e).flatMap (fun d => [(d, D), (D, d)])).length ≤ 300000 := by rw [List.length_append, List.length_append]; omega
          generalize P0 ++ prN rw0 p ++ (rw0.take e).flatMap (fun d => [(d, D), (D, d)]) = PE at *
          have b1 := cnS_le PE dd D
          have b2 := cnS_le (PE ++ [(dd, D)]) D dd
          rw [List.length_append, show [(dd, D)].length = 1 from rfl] at b2
          have i1 : dd * v + D < v * v := at_lt hdv dv
          have i2 : D * v + dd < v * v := at_lt dv hdv
          have r1 : (ldv (shM v PE))[(dd * v + D) * 1]? = some (iv (cnS PE dd D : Nat)) := by rw [ldv_get (by rw [shM_len]; exact i1), shM_at _ hdv dv]
          have s1 : (ldv (shM v PE)).set ((dd * v + D) * 1) (iv ((cnS PE dd D : Nat) + 1)) = ldv (shM v (PE ++ [(dd, D)])) := by rw [Nat.mul_one, show ((cnS PE dd D : Nat) : Int) + 1 = ((cnS PE dd D + 1 : Nat) : Int) from rfl, ldv_set, shM_set _ hdv dv]
          have r2 : ((ldv (shM v PE)).set ((dd * v + D) * 1) (iv ((cnS PE dd D : Nat) + 1)))[(D * v + dd) * 1]? = some (iv (cnS (PE ++ [(dd, D)]) D dd : Nat)) := by rw [s1, ldv_get (by rw [shM_len]; exact i2), shM_at _ dv hdv]
          have s2 : ((ldv (shM v PE)).set ((dd * v + D) * 1) (iv ((cnS PE dd D : Nat) + 1))).set ((D * v + dd) * 1) (iv ((cnS (PE ++ [(dd, D)]) D dd : Nat) + 1)) = ldv (shM v (PE ++ [(dd, D)] ++ [(D, dd)])) := by rw [s1, Nat.mul_one, show ((cnS (PE ++ [(dd, D)]) D dd : Nat) : Int) + 1 = ((cnS (PE ++ [(dd, D)]) D dd + 1 : Nat) : Int) from rfl, ldv_set, shM_set _ dv hdv]
          have hsl := ldv_len (shM v PE)
          rw [shM_len] at hsl
          rw [← hPE] at s2
          clear hPE hfl s1
          generalize cnS PE dd D = x1 at *
          generalize cnS (PE ++ [(dd, D)]) D dd = x2 at *
          generalize ldv (shM v PE) = sh at *
          have m1 : IntKind.i64.wrap ((dd : Int) * v) = ((dd * v : Nat) : Int) := by rw [← Int.natCast_mul]; exact IntWalk.i64_in _ (by omega)
          have m2 : IntKind.i64.wrap ((D : Int) * v) = ((D * v : Nat) : Int) := by rw [← Int.natCast_mul]; exact IntWalk.i64_in _ (by omega)
          have a1 : IntKind.i64.wrap (((dd * v : Nat) : Int) + D) = ((dd * v + D : Nat) : Int) := by rw [← Int.natCast_add]; exact IntWalk.i64_in _ (by omega)
          have a2 : IntKind.i64.wrap (((D * v : Nat) : Int) + dd) = ((D * v + dd : Nat) : Int) := by rw [← Int.natCast_add]; exact IntWalk.i64_in _ (by omega)
          generalize dd * v + D = I1 at *
          generalize D * v + dd = I2 at *
          generalize dd * v = J1 at *
          generalize D * v = J2 at *
          refine WC.seq fun K hK => ?_
          refine WC.region rfl ?_
          refine wG rfl rfl (g_lt rfl (.mk rfl rfl) (.mk rfl rfl) (decide_eq_true (by omega))) ?_
          refine WL.nil ?_
          (refine hK _ _ ?_; clear hK)
          refine WC.seq fun K hK => ?_
          refine WC.cond_true (.mk rfl rfl) ?_
          refine WC.skip ?_
          (refine hK _ _ ?_; clear hK)
          refine WC.seq fun K hK => ?_
          refine WC.block ?_
          refine WC.seq fun K hK => ?_
          refine WC.region rfl ?_
          refine wG rfl rfl (g_indexAddr (sz := 1) rfl (.mk rfl rfl) (.mk rfl rfl) rfl rfl rfl (by omega) (fun w hw => vec_some hw (.tail _ (.tail _ (.tail _ (.tail _ (.tail _ (.tail _ (.head _))))))) (by omega))) ?_
          refine wG rfl rfl (g_load rfl (.mk rfl rfl) rfl (rd_vec (by first | ((repeat (first | exact .head _ | apply List.Mem.tail)); done) | fail) hgX)) ?_
          refine wG rfl rfl (g_assign rfl (.mk (v := .int _ _) rfl rfl)) ?_
          refine WL.nil ?_
          (refine hK _ _ ?_; clear hK)
          refine WC.seq fun K hK => ?_
          refine WC.region rfl ?_
          refine wG rfl rfl (g_move rfl (.mk (v := .slice _ _ _) rfl rfl)) ?_
          refine wG rfl rfl (g_move rfl (.mk (v := .int _ _) rfl rfl)) ?_
          refine wG rfl rfl (g_move rfl (.mk (v := .int _ _) rfl rfl)) ?_
          refine wG rfl rfl (g_mul rfl (.mk rfl rfl) (.mk rfl rfl) m1) ?_
          refine wG rfl rfl (g_fieldAddr (off := 0) rfl (.mk rfl rfl) rfl (fun _ _ => rfl)) ?_
          refine wG rfl rfl (g_load rfl (.mk rfl rfl) rfl (rd_pt (.tail _ (.tail _ (.tail _ (.tail _ (.tail _ (.tail _ (.tail _ (.head _)))))))) rfl)) ?_
          refine wG rfl rfl (g_add rfl (.mk rfl rfl) (.mk rfl rfl) a1) ?_
          refine wG rfl rfl (g_indexAddr (sz := 1) rfl (.mk rfl rfl) (.mk rfl rfl) rfl rfl rfl (by omega) (fun _ _ => rfl)) ?_
          refine wG rfl rfl (g_load rfl (.mk rfl rfl) rfl (rd_vec (by first | ((repeat (first | exact .head _ | apply List.Mem.tail)); done) | fail) r1)) ?_
          refine wG rfl rfl (g_add rfl (.mk rfl rfl) (.mk rfl rfl) (IntWalk.i64_in _ (by omega))) ?_
          refine wG rfl rfl (g_indexAddr (sz := 1) rfl (.mk rfl rfl) (.mk rfl rfl) rfl rfl rfl (by omega) (fun _ _ => rfl)) ?_
          refine WL.want rfl (WL1.storeV1 rfl rfl (.mk rfl rfl) (.mk (v := .int _ _) rfl rfl) rfl rfl (by first | omega | (simp; done) | (simp; omega)) (.head) ?_)
          refine WL.nil ?_
          (refine hK _ _ ?_; clear hK)
          refine WC.region rfl ?_
          refine wG rfl rfl (g_move rfl (.mk (v := .slice _ _ _) rfl rfl)) ?_
          refine wG rfl rfl (g_fieldAddr (off := 0) rfl (.mk rfl rfl) rfl (fun _ _ => rfl)) ?_
          refine wG rfl rfl (g_load rfl (.mk rfl rfl) rfl (rd_pt (.tail _ (.tail _ (.tail _ (.tail _ (.tail _ (.tail _ (.tail _ (.head _)))))))) rfl)) ?_
          refine wG rfl rfl (g_move rfl (.mk (v := .int _ _) rfl rfl)) ?_
          refine wG rfl rfl (g_mul rfl (.mk rfl rfl) (.mk rfl rfl) m2) ?_
          refine wG rfl rfl (g_move rfl (.mk (v := .int _ _) rfl rfl)) ?_
          refine wG rfl rfl (g_add rfl (.mk rfl rfl) (.mk rfl rfl) a2) ?_
          refine wG rfl rfl (g_indexAddr (sz := 1) rfl (.mk rfl rfl) (.mk rfl rfl) rfl rfl rfl (by omega) (fun _ _ => rfl)) ?_
          refine wG rfl rfl (g_load rfl (.mk rfl rfl) rfl (rd_vec (by first | ((repeat (first | exact .head _ | apply List.Mem.tail)); done) | fail) r2)) ?_
          refine wG rfl rfl (g_add rfl (.mk rfl rfl) (.mk rfl rfl) (IntWalk.i64_in _ (by omega))) ?_
          refine wG rfl rfl (g_indexAddr (sz := 1) rfl (.mk rfl rfl) (.mk rfl rfl) rfl rfl rfl (by omega) (fun _ _ => rfl)) ?_
          refine WL.want rfl (WL1.storeV1 rfl rfl (.mk rfl rfl) (.mk (v := .int _ _) rfl rfl) rfl rfl (by first | omega | (simp; done) | (simp; omega)) (.head) ?_)
          refine WL.nil ?_
          (refine hK _ _ ?_; clear hK)
          refine WC.region rfl ?_
          refine wG rfl rfl (g_add rfl (.mk rfl rfl) (.mk rfl rfl) (IntWalk.i64_in _ (by omega))) ?_
          refine wG rfl rfl (g_move rfl (.mk (v := .int _ _) rfl rfl)) ?_
          refine WL.nil ?_
          exact ⟨e + 1, (by repeat (first | with_reducible exact Out.refl _ _ | refine Out.set rfl ?_ | refine Out.put rfl ?_ | refine Out.sets rfl ?_ | refine Out.hav rfl ?_ | exact Out.refl _ _)), ⟨rfl, trivial⟩, (by rw [← s2]; exact (by repeat (first | exact List.nil_sublist _ | exact List.Sublist.refl _ | apply List.Sublist.cons_cons | apply List.Sublist.cons))), by omega, by omega⟩
        · obtain rfl : e = p := by omega
          have hX1 : ldv (rw0.take e) ++ [iv D] = ldv (rw0.take (e + 1)) := by rw [take_snoc (by omega), d1]; unfold ldv; rw [List.map_append]; rfl
          have hP4 : P0 ++ prN rw0 e ++ ((rw0.take e).flatMap fun d => [(d, D), (D, d)]) = P0 ++ prN rw0 (e + 1) := by rw [← d1, List.append_assoc]; rfl
          refine WC.seq fun K hK => ?_
          refine WC.region rfl ?_
          refine wG rfl rfl (g_lt rfl (.mk rfl rfl) (.mk rfl rfl) (decide_eq_false (by omega))) ?_
          refine WL.nil ?_
          (refine hK _ _ ?_; clear hK)
          refine WC.seq fun K hK => ?_
          refine WC.cond_false (.mk rfl rfl) ?_
          refine WC.exit ?_
          (clear hK; refine hK _ _ ?_; clear hK)
          refine WC.region rfl ?_
          refine wG rfl rfl (g_move rfl (.mk (v := .slice _ _ _) rfl rfl)) ?_
          refine wG rfl rfl (g_fieldAddr (off := 0) rfl (.mk rfl rfl) rfl (fun _ _ => rfl)) ?_
          refine wG rfl rfl (g_load rfl (.mk rfl rfl) rfl (rd_pt (.tail _ (.tail _ (.tail _ (.tail _ (.tail _ (.tail _ (.tail _ (.head _)))))))) rfl)) ?_
          refine WL.want rfl (WL1.lit (cs := [_]) elI rfl rfl rfl (.cons (.mk (v := .int _ _) rfl rfl) .nil) rfl (by first | (simp [Value.cells]; done) | fail) rfl rfl (fun b168 => ?_))
          refine WL.want rfl (WL1.append elI rfl rfl (.mk rfl rfl) (.mk rfl rfl) (.tail (.tail (.tail (.tail (.tail (.tail (.tail (.head)))))))) (fun w hw => Sl.of_vec hw (.head _)) (all1 rfl) (by unfold maxLen; omega) (by omega) (fun A169 c169 => ?_))
          refine wG rfl rfl (g_assign rfl (.mk (v := .slice _ _ _) rfl rfl)) ?_
          refine WL.nil ?_
          (refine hK _ _ ?_; clear hK)
          refine WC.region rfl ?_
          refine wG rfl rfl (g_add rfl (.mk rfl rfl) (.mk rfl rfl) (IntWalk.i64_in _ (by omega))) ?_
          refine wG rfl rfl (g_move rfl (.mk (v := .int _ _) rfl rfl)) ?_
          refine WL.nil ?_
          refine ⟨e + 1, (A169, c169), (by repeat (first | with_reducible exact Out.refl _ _ | refine Out.set rfl ?_ | refine Out.put rfl ?_ | refine Out.sets rfl ?_ | refine Out.hav rfl ?_ | exact Out.refl _ _)), ⟨rfl, rfl, trivial⟩, ?_, by omega, by omega⟩
          dsimp only
          rw [← hX1, ← hP4]
          exact Imp.pick (by repeat (first | exact .head | apply Take.tail)) (Imp.pick (by repeat (first | exact .head | apply Take.tail)) (Imp.pick (by repeat (first | exact .head | apply Take.tail)) (Imp.pick (by repeat (first | exact .head | apply Take.tail)) (Imp.pick (by repeat (first | exact .head | apply Take.tail)) (Imp.pick (by repeat (first | exact .head | apply Take.tail)) (Imp.pick (by repeat (first | exact .head | apply Take.tail)) (Imp.nil _)))))))
      · obtain rfl : p = k := by omega
        have hrt : rw0.take p = rw0 := List.take_of_length_le (by omega)
        refine WC.seq fun K hK => ?_
        refine WC.region rfl ?_
        refine wG rfl rfl (g_lt rfl (.mk rfl rfl) (.mk rfl rfl) (decide_eq_false (by omega))) ?_
        refine WL.nil ?_
        (refine hK _ _ ?_; clear hK)
        refine WC.seq fun K hK => ?_
        refine WC.cond_false (.mk rfl rfl) ?_
        refine WC.exit ?_
        (clear hK; refine hK _ _ ?_; clear hK)
        refine WC.region rfl ?_
        refine wG rfl rfl (g_add rfl (.mk rfl rfl) (.mk rfl rfl) (IntWalk.i64_in _ (by omega))) ?_
        refine wG rfl rfl (g_move rfl (.mk (v := .int _ _) rfl rfl)) ?_
        refine WL.nil ?_
        exact ⟨g + 1, (by repeat (first | with_reducible exact Out.refl _ _ | refine Out.set rfl ?_ | refine Out.put rfl ?_ | refine Out.sets rfl ?_ | refine Out.hav rfl ?_ | exact Out.refl _ _)), ⟨rfl, trivial⟩, (by rw [hQn, hPn, hrt]; exact (by repeat (first | exact List.nil_sublist _ | exact List.Sublist.refl _ | apply List.Sublist.cons_cons | apply List.Sublist.cons))), by omega, by omega⟩
    · obtain rfl : g = T * rs.length := by omega
      refine WC.seq fun K hK => ?_
      refine WC.region rfl ?_
      refine wG rfl rfl (g_lt rfl (.mk rfl rfl) (.mk rfl rfl) (decide_eq_false (by omega))) ?_
      refine WL.nil ?_
      (refine hK _ _ ?_; clear hK)
      refine WC.seq fun K hK => ?_
      refine WC.cond_false (.mk rfl rfl) ?_
      refine WC.exit ?_
      (clear hK; refine hK _ _ ?_; clear hK)
      refine WC.seq fun K hK => ?_
      refine WC.seq fun K hK => ?_
      refine WC.region rfl ?_
      refine wG rfl rfl (g_move rfl (.mk (v := .int _ _) rfl rfl)) ?_
      refine wG rfl rfl (g_move rfl (.mk (v := .int _ _) rfl rfl)) ?_
      refine WL.nil ?_
      (refine hK _ _ ?_; clear hK)
      refine WC.block ?_
      have hgln : gs.length = rs.length := by rw [← hrs]; exact List.length_map _
      have hqe : ∀ a, a < v → cntN (QG gs k (T * rs.length)) a = T * r := fun a ha => by
        have := hW.q_ ha T hT3 0 (by omega) (by omega)
        rw [hgln, Nat.add_zero] at this
        rw [this]; rfl
      have hpe : ∀ a b, a < v → b < v → a ≠ b → cnS (PG gs k (T * rs.length)) a b = T * lam := fun a b ha hb hab => by
        have := hW.p_ ha hb hab T hT3 0 (by omega) (by omega)
        rw [hgln, Nat.add_zero] at this
        rw [this]; rfl
      have hlam := hpe 0 1 (by omega) (by omega) (by omega)
      have hPl := PG_len gs (k := k) (T * rs.length)
      have hlb := cnS_le (PG gs k (T * rs.length)) 0 1
      have hN6 : T * rs.length * (k * (2 * k)) ≤ 4096 * 72 := Nat.mul_le_mul (by rw [hgln] at hgrp; exact hgrp) (Nat.mul_le_mul hk6 (Nat.mul_le_mul_left 2 hk6) : k * (2 * k) ≤ 6 * (2 * 6))
      have mTr : IntKind.i64.wrap ((T : Int) * r) = ((T * r : Nat) : Int) := by rw [← Int.natCast_mul]; exact IntWalk.i64_in _ (by omega)
      have mTl : IntKind.i64.wrap ((T : Int) * lam) = ((T * lam : Nat) : Int) := by rw [← Int.natCast_mul]; exact IntWalk.i64_in _ (by omega)
      have hcl := cntL_len v (QG gs k (T * rs.length))
      have hsl := shM_len v (PG gs k (T * rs.length))
      have hca : ∀ a, a < v → (ldv (cntL v (QG gs k (T * rs.length))))[a * 1]? = some (iv (T * r : Nat)) := fun a ha => by rw [ldv_get (by rw [hcl]; exact ha), cntL_at _ ha, hqe a ha]
      have hsa : ∀ a b, a < v → b < v → a ≠ b → (ldv (shM v (PG gs k (T * rs.length))))[(a * v + b) * 1]? = some (iv (T * lam : Nat)) := fun a b ha hb hab => by rw [ldv_get (by rw [hsl]; exact at_lt ha hb), shM_at _ ha hb, hpe a b ha hb hab]
      have hsh : ∀ a b w, a < v → b < v → a ≠ b → IMat w (.slice A rs.length c) rs → Calls Try.prog 20 #[dsgV v A c rs, iv a, iv b] w fun e w' => e = .returned (iv lam) ∧ Below w.heap.size w w' := fun a b w ha hb hab hm => by
        have := shared_e (k := k) w hm ha hb hv60 (by omega) (fun i hi => by rw [hrs]; exact (hW.row (by omega)).1) (by omega) (fun i hi x hx => by rw [hrs]; exact (hW.row (by omega)).2.2 x hx)
        rwa [hrs, hW.l_ ha hb hab] at this
      have hcl2 := ldv_len (cntL v (QG gs k (T * rs.length)))
      have hsl2 := ldv_len (shM v (PG gs k (T * rs.length)))
      rw [hcl] at hcl2
      rw [hsl] at hsl2
      clear hqe hpe hlam hPl hlb hN6
      generalize ldv (cntL v (QG gs k (T * rs.length))) = ct at *
      generalize ldv (shM v (PG gs k (T * rs.length))) = sh at *
      generalize bls (usL v cap (QG gs k (T * rs.length))) = us at *
      have hTr : T * r ≤ 100000 := by omega
      generalize hQ1 : T * r = TR at *
      generalize hQ2 : T * lam = TL at *
      refine WC.loop (421249166674216774170259095977975804689430769811699423617877016640) (fun a : Nat => [(173, iv a)]) (fun _ => [vec (some ⟨b54, 0, none⟩) v v 3 1 ct, vec (some ⟨b58, 0, none⟩) (v * v) (v * v) 3 1 sh, pt b7 LT [iv v, .slice A rs.length c, iv T, iv 2], vec A rs.length c 32 1 (rs.map IRow.v), rowsI rs]) (fun a => a ≤ v) (fun a => v - a) 0 ⟨rfl, trivial⟩ (by repeat (first | exact List.nil_sublist _ | exact List.Sublist.refl _ | apply List.Sublist.cons_cons | apply List.Sublist.cons)) (by omega) ?_
      intro a U4 ha
      by_cases hav : a < v
      · have hcaa := hca a hav
        refine WC.seq fun K hK => ?_
        refine WC.region rfl ?_
        refine wG rfl rfl (g_lt rfl (.mk rfl rfl) (.mk rfl rfl) (decide_eq_true (by omega))) ?_
        refine WL.nil ?_
        (refine hK _ _ ?_; clear hK)
        refine WC.seq fun K hK => ?_
        refine WC.cond_true (.mk rfl rfl) ?_
        refine WC.skip ?_
        (refine hK _ _ ?_; clear hK)
        refine WC.seq fun K hK => ?_
        refine WC.block ?_
        refine WC.seq fun K hK => ?_
        refine WC.region rfl ?_
        refine wG rfl rfl (g_move rfl (.mk (v := .int _ _) rfl rfl)) ?_
        refine wG rfl rfl (g_assign rfl (.mk (v := .int _ _) rfl rfl)) ?_
        refine WL.nil ?_
        (refine hK _ _ ?_; clear hK)
        refine WC.seq fun K hK => ?_
        refine WC.seq fun K hK => ?_
        refine WC.quiet rfl (by kernel_rfl) (by decide +kernel) ?_
        refine WQ.want rfl (WQ1.give rfl (g_move rfl (.mk (v := .slice _ _ _) rfl rfl)) ?_)
        refine WQ.want rfl (WQ1.give rfl (g_move rfl (.mk (v := .int _ _) rfl rfl)) ?_)
        refine WQ.want rfl (WQ1.give rfl (g_indexAddr (sz := 1) rfl (.mk rfl rfl) (.mk rfl rfl) rfl rfl rfl (by omega) (fun _ _ => rfl)) ?_)
        refine WQ.want rfl (WQ1.give rfl (g_load rfl (.mk rfl rfl) rfl (rd_vec (by first | ((repeat (first | exact .head _ | apply List.Mem.tail)); done) | fail) hcaa)) ?_)
        refine WQ.want rfl (WQ1.give rfl (g_fieldAddr (off := 2) rfl (.mk rfl rfl) rfl (fun _ _ => rfl)) ?_)
        refine WQ.want rfl (WQ1.give rfl (g_load rfl (.mk rfl rfl) rfl (rd_pt (.tail _ (.tail _ (.head _))) rfl)) ?_)
        refine WQ.want rfl (WQ1.give rfl (g_move rfl (.mk (v := .int _ _) rfl rfl)) ?_)
        refine WQ.want rfl (WQ1.give rfl (g_mul rfl (.mk rfl rfl) (.mk rfl rfl) mTr) ?_)
        refine WQ.want rfl (WQ1.give rfl (g_ne rfl (.mk rfl rfl) (.mk rfl rfl) (decide_eq_false (by omega))) ?_)
        refine WQ.nil ?_
        (refine hK _ _ ?_; clear hK)
        refine WC.cond_false (.mk rfl rfl) ?_
        refine WC.skip ?_
        (refine hK _ _ ?_; clear hK)
        refine WC.seq fun K hK => ?_
        refine WC.region rfl ?_
        refine wG rfl rfl (g_move rfl (.mk (v := .int _ _) rfl rfl)) ?_
        refine wG rfl rfl (g_move rfl (.mk (v := .int _ _) rfl rfl)) ?_
        refine WL.nil ?_
        (refine hK _ _ ?_; clear hK)
        refine WC.block ?_
        refine WC.loop (210624583239034658780419168432406654900170403049498918688888193088) (fun b : Nat => [(186, iv b)]) (fun _ => [vec (some ⟨b54, 0, none⟩) v v 3 1 ct, vec (some ⟨b58, 0, none⟩) (v * v) (v * v) 3 1 sh, pt b7 LT [iv v, .slice A rs.length c, iv T, iv 2], vec A rs.length c 32 1 (rs.map IRow.v), rowsI rs]) (fun b => b ≤ v) (fun b => v - b) 0 ⟨rfl, trivial⟩ (by repeat (first | exact List.nil_sublist _ | exact List.Sublist.refl _ | apply List.Sublist.cons_cons | apply List.Sublist.cons)) (by omega) ?_
        intro b U5 hb
        by_cases hbv : b < v
        · by_cases hab : a = b
          · subst hab
            refine WC.seq fun K hK => ?_
            refine WC.region rfl ?_
            refine wG rfl rfl (g_lt rfl (.mk rfl rfl) (.mk rfl rfl) (decide_eq_true (by omega))) ?_
            refine WL.nil ?_
            (refine hK _ _ ?_; clear hK)
            refine WC.seq fun K hK => ?_
            refine WC.cond_true (.mk rfl rfl) ?_
            refine WC.skip ?_
            (refine hK _ _ ?_; clear hK)
            refine WC.seq fun K hK => ?_
            refine WC.block ?_
            refine WC.seq fun K hK => ?_
            refine WC.region rfl ?_
            refine wG rfl rfl (g_move rfl (.mk (v := .int _ _) rfl rfl)) ?_
            refine wG rfl rfl (g_assign rfl (.mk (v := .int _ _) rfl rfl)) ?_
            refine WL.nil ?_
            (refine hK _ _ ?_; clear hK)
            refine WC.seq fun K hK => ?_
            refine WC.quiet rfl (by kernel_rfl) (by decide +kernel) ?_
            refine WQ.want rfl (WQ1.give rfl (g_move rfl (.mk (v := .int _ _) rfl rfl)) ?_)
            refine WQ.want rfl (WQ1.give rfl (g_move rfl (.mk (v := .int _ _) rfl rfl)) ?_)
            refine WQ.want rfl (WQ1.give rfl (g_ne rfl (.mk rfl rfl) (.mk rfl rfl) (decide_eq_false (by omega))) ?_)
            refine WQ.want rfl (WQ1.give rfl (g_move rfl (.mk (v := .bool _) rfl rfl)) ?_)
            refine WQ.skipG rfl rfl rfl rfl rfl rfl ?_
            refine WQ.skipG rfl rfl rfl rfl rfl rfl ?_
            refine WQ.skipG rfl rfl rfl rfl rfl rfl ?_
            refine WQ.skipG rfl rfl rfl rfl rfl rfl ?_
            refine WQ.skipG rfl rfl rfl rfl rfl rfl ?_
            refine WQ.skipG rfl rfl rfl rfl rfl rfl ?_
            refine WQ.skipG rfl rfl rfl rfl rfl rfl ?_
            refine WQ.skipG rfl rfl rfl rfl rfl rfl ?_
            refine WQ.skipG rfl rfl rfl rfl rfl rfl ?_
            refine WQ.skipG rfl rfl rfl rfl rfl rfl ?_
            refine WQ.skipG rfl rfl rfl rfl rfl rfl ?_
            refine WQ.skipG rfl rfl rfl rfl rfl rfl ?_
            refine WQ.skipG rfl rfl rfl rfl rfl rfl ?_
            refine WQ.skipG rfl rfl rfl rfl rfl rfl ?_
            refine WQ.skipU rfl rfl rfl rfl rfl ?_
            refine WQ.skipU rfl rfl rfl rfl rfl ?_
            refine WQ.skipU rfl rfl rfl rfl rfl ?_
            refine WQ.skipU rfl rfl rfl rfl rfl ?_
            refine WQ.skipU rfl rfl rfl rfl rfl ?_
            refine WQ.skipU rfl rfl rfl rfl rfl ?_
            refine WQ.skipU rfl rfl rfl rfl rfl ?_
            refine WQ.skipG rfl rfl rfl rfl rfl rfl ?_
            refine WQ.want rfl (WQ1.give rfl (g_pickF rfl (.mk rfl rfl) (.mk (v := .bool _) rfl rfl)) ?_)
            refine WQ.nil ?_
            (refine hK _ _ ?_; clear hK)
            refine WC.cond_false (.mk rfl rfl) ?_
            refine WC.skip ?_
            (refine hK _ _ ?_; clear hK)
            refine WC.region rfl ?_
            refine wG rfl rfl (g_add rfl (.mk rfl rfl) (.mk rfl rfl) (IntWalk.i64_in _ (by omega))) ?_
            refine wG rfl rfl (g_move rfl (.mk (v := .int _ _) rfl rfl)) ?_
            refine WL.nil ?_
            exact ⟨a + 1, (by repeat (first | with_reducible exact Out.refl _ _ | refine Out.set rfl ?_ | refine Out.put rfl ?_ | refine Out.sets rfl ?_ | refine Out.hav rfl ?_ | exact Out.refl _ _)), ⟨rfl, trivial⟩, .refl _, by omega, by omega⟩
          · have hsab := hsa a b hav hbv hab
            have hshb := fun w h => hsh a b w hav hbv hab h
            have i1 : a * v + b < v * v := at_lt hav hbv
            have m1 : IntKind.i64.wrap ((a : Int) * v) = ((a * v : Nat) : Int) := by rw [← Int.natCast_mul]; exact IntWalk.i64_in _ (by omega)
            have a1 : IntKind.i64.wrap (((a * v : Nat) : Int) + b) = ((a * v + b : Nat) : Int) := by rw [← Int.natCast_add]; exact IntWalk.i64_in _ (by omega)
            generalize a * v + b = I1 at *
            generalize a * v = J1 at *
            refine WC.seq fun K hK => ?_
            refine WC.region rfl ?_
            refine wG rfl rfl (g_lt rfl (.mk rfl rfl) (.mk rfl rfl) (decide_eq_true (by omega))) ?_
            refine WL.nil ?_
            (refine hK _ _ ?_; clear hK)
            refine WC.seq fun K hK => ?_
            refine WC.cond_true (.mk rfl rfl) ?_
            refine WC.skip ?_
            (refine hK _ _ ?_; clear hK)
            refine WC.seq fun K hK => ?_
            refine WC.block ?_
            refine WC.seq fun K hK => ?_
            refine WC.region rfl ?_
            refine wG rfl rfl (g_move rfl (.mk (v := .int _ _) rfl rfl)) ?_
            refine wG rfl rfl (g_assign rfl (.mk (v := .int _ _) rfl rfl)) ?_
            refine WL.nil ?_
            (refine hK _ _ ?_; clear hK)
            refine WC.seq fun K hK => ?_
            refine WC.quiet rfl (by kernel_rfl) (by decide +kernel) ?_
            refine WQ.want rfl (WQ1.give rfl (g_move rfl (.mk (v := .int _ _) rfl rfl)) ?_)
            refine WQ.want rfl (WQ1.give rfl (g_move rfl (.mk (v := .int _ _) rfl rfl)) ?_)
            refine WQ.want rfl (WQ1.give rfl (g_ne rfl (.mk rfl rfl) (.mk rfl rfl) (decide_eq_true (by omega))) ?_)
            refine WQ.want rfl (WQ1.give rfl (g_move rfl (.mk (v := .bool _) rfl rfl)) ?_)
            refine WQ.wantG rfl rfl rfl rfl (WQ1.give rfl (g_move rfl (.mk (v := .slice _ _ _) rfl rfl)) ?_)
            refine WQ.wantG rfl rfl rfl rfl (WQ1.give rfl (g_move rfl (.mk (v := .int _ _) rfl rfl)) ?_)
            refine WQ.wantG rfl rfl rfl rfl (WQ1.give rfl (g_move rfl (.mk (v := .int _ _) rfl rfl)) ?_)
            refine WQ.wantG rfl rfl rfl rfl (WQ1.give rfl (g_mul rfl (.mk rfl rfl) (.mk rfl rfl) m1) ?_)
            refine WQ.wantG rfl rfl rfl rfl (WQ1.give rfl (g_move rfl (.mk (v := .int _ _) rfl rfl)) ?_)
            refine WQ.wantG rfl rfl rfl rfl (WQ1.give rfl (g_add rfl (.mk rfl rfl) (.mk rfl rfl) a1) ?_)
            refine WQ.wantG rfl rfl rfl rfl (WQ1.give rfl (g_indexAddr (sz := 1) rfl (.mk rfl rfl) (.mk rfl rfl) rfl rfl rfl (by omega) (fun _ _ => rfl)) ?_)
            refine WQ.wantG rfl rfl rfl rfl (WQ1.give rfl (g_load rfl (.mk rfl rfl) rfl (rd_vec (by first | ((repeat (first | exact .head _ | apply List.Mem.tail)); done) | fail) hsab)) ?_)
            refine WQ.wantG rfl rfl rfl rfl (WQ1.give rfl (g_fieldAddr (off := 2) rfl (.mk rfl rfl) rfl (fun _ _ => rfl)) ?_)
            refine WQ.wantG rfl rfl rfl rfl (WQ1.give rfl (g_load rfl (.mk rfl rfl) rfl (rd_pt (.tail _ (.tail _ (.head _))) rfl)) ?_)
            refine WQ.wantG rfl rfl rfl rfl (WQ1.give rfl (g_move rfl (.mk (v := .int _ _) rfl rfl)) ?_)
            refine WQ.wantG rfl rfl rfl rfl (WQ1.give rfl (g_mul rfl (.mk rfl rfl) (.mk rfl rfl) mTl) ?_)
            refine WQ.wantG rfl rfl rfl rfl (WQ1.give rfl (g_ne rfl (.mk rfl rfl) (.mk rfl rfl) (decide_eq_false (by omega))) ?_)
            refine WQ.wantG rfl rfl rfl rfl (WQ1.give rfl (g_move rfl (.mk (v := .bool _) rfl rfl)) ?_)
            refine WQ.wantG rfl rfl rfl rfl (WQ1.give rfl (g_fieldAddr (off := 0) rfl (.mk rfl rfl) rfl (fun _ _ => rfl)) ?_)
            refine WQ.wantG rfl rfl rfl rfl (WQ1.give rfl (g_loadA rfl (.mk rfl rfl) rfl rfl (rdr_pt (cs := [iv v, .slice A rs.length c]) (by first | ((repeat (first | exact .head _ | apply List.Mem.tail)); done) | fail) (g2 A c rs.length))) ?_)
            refine WQ.wantG rfl rfl rfl rfl (WQ1.give rfl (g_move rfl (.mk (v := .int _ _) rfl rfl)) ?_)
            refine WQ.wantG rfl rfl rfl rfl (WQ1.give rfl (g_move rfl (.mk (v := .int _ _) rfl rfl)) ?_)
            refine WQ.wantG rfl rfl rfl rfl (WQ1.callP rfl rfl rfl (.cons (.mk (v := .agg _) rfl rfl) (.cons (.mk (v := .int _ _) rfl rfl) (.cons (.mk (v := .int _ _) rfl rfl) .nil))) (fun w hw => hshb w (IMat.of_rows hw (by first | ((repeat (first | exact .head _ | apply List.Mem.tail)); done) | fail) (by first | ((repeat (first | exact .head _ | apply List.Mem.tail)); done) | fail) rfl)) ?_)
            refine WQ.wantG rfl rfl rfl rfl (WQ1.give rfl (g_move rfl (.mk (v := .int _ _) rfl rfl)) ?_)
            refine WQ.wantG rfl rfl rfl rfl (WQ1.give rfl (g_ne rfl (.mk rfl rfl) (.mk rfl rfl) (decide_eq_false (by omega))) ?_)
            refine WQ.wantG rfl rfl rfl rfl (WQ1.give rfl (g_pickF rfl (.mk rfl rfl) (.mk (v := .bool _) rfl rfl)) ?_)
            refine WQ.want rfl (WQ1.give rfl (g_pickT rfl (.mk rfl rfl) (.mk (v := .bool _) rfl rfl)) ?_)
            refine WQ.nil ?_
            (refine hK _ _ ?_; clear hK)
            refine WC.cond_false (.mk rfl rfl) ?_
            refine WC.skip ?_
            (refine hK _ _ ?_; clear hK)
            refine WC.region rfl ?_
            refine wG rfl rfl (g_add rfl (.mk rfl rfl) (.mk rfl rfl) (IntWalk.i64_in _ (by omega))) ?_
            refine wG rfl rfl (g_move rfl (.mk (v := .int _ _) rfl rfl)) ?_
            refine WL.nil ?_
            exact ⟨b + 1, (by repeat (first | with_reducible exact Out.refl _ _ | refine Out.set rfl ?_ | refine Out.put rfl ?_ | refine Out.sets rfl ?_ | refine Out.hav rfl ?_ | exact Out.refl _ _)), ⟨rfl, trivial⟩, .refl _, by omega, by omega⟩
        · obtain rfl : b = v := by omega
          refine WC.seq fun K hK => ?_
          refine WC.region rfl ?_
          refine wG rfl rfl (g_lt rfl (.mk rfl rfl) (.mk rfl rfl) (decide_eq_false (by omega))) ?_
          refine WL.nil ?_
          (refine hK _ _ ?_; clear hK)
          refine WC.seq fun K hK => ?_
          refine WC.cond_false (.mk rfl rfl) ?_
          refine WC.exit ?_
          (clear hK; refine hK _ _ ?_; clear hK)
          refine WC.region rfl ?_
          refine wG rfl rfl (g_add rfl (.mk rfl rfl) (.mk rfl rfl) (IntWalk.i64_in _ (by omega))) ?_
          refine wG rfl rfl (g_move rfl (.mk (v := .int _ _) rfl rfl)) ?_
          refine WL.nil ?_
          exact ⟨a + 1, (by repeat (first | with_reducible exact Out.refl _ _ | refine Out.set rfl ?_ | refine Out.put rfl ?_ | refine Out.sets rfl ?_ | refine Out.hav rfl ?_ | exact Out.refl _ _)), ⟨rfl, trivial⟩, .refl _, by omega, by omega⟩
      · obtain rfl : a = v := by omega
        refine WC.seq fun K hK => ?_
        refine WC.region rfl ?_
        refine wG rfl rfl (g_lt rfl (.mk rfl rfl) (.mk rfl rfl) (decide_eq_false (by omega))) ?_
        refine WL.nil ?_
        (refine hK _ _ ?_; clear hK)
        refine WC.seq fun K hK => ?_
        refine WC.cond_false (.mk rfl rfl) ?_
        refine WC.exit ?_
        (clear hK; refine hK _ _ ?_; clear hK)
        refine WC.seq fun K hK => ?_
        refine WC.region rfl ?_
        refine wG rfl rfl (g_assign rfl (.mk (v := .bool _) rfl rfl)) ?_
        refine WL.nil ?_
        (refine hK _ _ ?_; clear hK)
        refine WC.ret ?_
        exact fun w' hw' => ⟨rfl, hw'.1⟩
  · refine WC.imp (M := vec (some ⟨b63, 0, none⟩) (v * cap) (v * cap) 4 1 (bls (usL v cap (QG gs k 0))) :: vec (some ⟨b54, 0, none⟩) v v 3 1 (ldv (cntL v (QG gs k 0))) :: vec (some ⟨b58, 0, none⟩) (v * v) (v * v) 3 1 (ldv (shM v (PG gs k 0))) :: pt b7 LT [iv v, .slice A rs.length c, iv T, iv 2] :: vec A rs.length c 32 1 (rs.map IRow.v) :: rowsI rs :: []) (by
      rw [made_iv, made_iv, made_bo, z1, z2, z3]
      exact Imp.pick (by repeat (first | exact .head | apply Take.tail)) (Imp.pick (by repeat (first | exact .head | apply Take.tail)) (Imp.pick (by repeat (first | exact .head | apply Take.tail)) (Imp.pick (by repeat (first | exact .head | apply Take.tail)) (Imp.pick (by repeat (first | exact .head | apply Take.tail)) (Imp.pick (by repeat (first | exact .head | apply Take.tail)) (Imp.nil _))))))) ?_
    refine WC.loop (5986310706507378352962293074805821461534404864049216) (fun g : Nat => [(66, iv g)]) (fun g => vec (some ⟨b63, 0, none⟩) (v * cap) (v * cap) 4 1 (bls (usL v cap (QG gs k g))) :: vec (some ⟨b54, 0, none⟩) v v 3 1 (ldv (cntL v (QG gs k g))) :: vec (some ⟨b58, 0, none⟩) (v * v) (v * v) 3 1 (ldv (shM v (PG gs k g))) :: pt b7 LT [iv v, .slice A rs.length c, iv T, iv 2] :: vec A rs.length c 32 1 (rs.map IRow.v) :: rowsI rs :: []) (fun g => g ≤ T * rs.length) (fun g => T * rs.length - g) 0 ⟨rfl, trivial⟩ (.refl _) (by omega) ?_
    intro g U hg
    by_cases hgl : g < T * rs.length
    · obtain ⟨tt, ht⟩ : ∃ tt, tt = g / rs.length := ⟨_, rfl⟩
      obtain ⟨g0, hg0⟩ : ∃ g0, g0 = g % rs.length := ⟨_, rfl⟩
      have hpos : 0 < rs.length := Nat.pos_of_ne_zero (fun h => by rw [h] at hgl; omega)
      have hgg : g = tt * rs.length + g0 := by rw [ht, hg0, Nat.mul_comm]; exact (Nat.div_add_mod g rs.length).symm
      have hg0l : g0 < rs.length := by rw [hg0]; exact Nat.mod_lt _ hpos
      have htT : tt < T := by rw [ht]; exact Nat.div_lt_of_lt_mul (by rw [Nat.mul_comm]; exact hgl)
      have hrl := rowR_len gs k g
      have hgln : gs.length = rs.length := by rw [← hrs]; exact List.length_map _
      have hg4 : g ≤ 4096 := by rw [hgln] at hgrp; omega
      have hstep := fun p (hp : p < k) => hW.step (t := tt) (g0 := g0) (p := p) (by omega) (by omega) hp
      rw [hgln, ← hgg] at hstep
      have hhm := fun p (hp : p < k) w (hm : IMat w (.slice A rs.length c) rs) => lhome_e (T := tt) (g0 := g0) (p := p) (G := g) w (by rw [hrs]; exact hy : Lay v k r lam (ils rs) T 2) hm hgg hg0l htT hp
      rw [hrs] at hhm
      have hPl := PG_len gs (k := k) g
      have hQn : QG gs k (g + 1) = QG gs k g ++ rowR gs k g := rfl
      have hPn : PG gs k (g + 1) = PG gs k g ++ prN (rowR gs k g) k := rfl

      generalize QG gs k g = Q0 at *
      generalize PG gs k g = P0 at *
      generalize rowR gs k g = rw0 at *
      refine WC.seq fun K hK => ?_
      refine WC.region rfl ?_
      refine wG rfl rfl (g_lt rfl (.mk rfl rfl) (.mk rfl rfl) (decide_eq_true (by omega))) ?_
      refine WL.nil ?_
      (refine hK _ _ ?_; clear hK)
      refine WC.seq fun K hK => ?_
      refine WC.cond_true (.mk rfl rfl) ?_
      refine WC.skip ?_
      (refine hK _ _ ?_; clear hK)
      refine WC.seq fun K hK => ?_
      refine WC.block ?_
      refine WC.seq fun K hK => ?_
      refine WC.region rfl ?_
      refine wG rfl rfl (g_move rfl (.mk (v := .int _ _) rfl rfl)) ?_
      refine wG rfl rfl (g_assign rfl (.mk (v := .int _ _) rfl rfl)) ?_
      refine WL.nil ?_
      (refine hK _ _ ?_; clear hK)
      refine WC.seq fun K hK => ?_
      refine WC.region rfl ?_
      refine wG rfl rfl (g_assign rfl (.mk (v := .slice _ _ _) rfl rfl)) ?_
      refine WL.nil ?_
      (refine hK _ _ ?_; clear hK)
      refine WC.seq fun K hK => ?_
      refine WC.region rfl ?_
      refine wG rfl rfl (g_loadA rfl (.mk rfl rfl) rfl rfl (rdr_pt (cs := [iv v, .slice A rs.length c, iv T, iv 2]) (by first | ((repeat (first | exact .head _ | apply List.Mem.tail)); done) | fail) (g4 A c rs.length))) ?_
      refine WL.want rfl (WL1.callP rfl rfl rfl (.cons (.mk (v := .agg _) rfl rfl) .nil) (fun w hw => lwidth_e w (by rw [hrs]; exact hy) (IMat.of_rows hw (by first | ((repeat (first | exact .head _ | apply List.Mem.tail)); done) | fail) (by first | ((repeat (first | exact .head _ | apply List.Mem.tail)); done) | fail) rfl)) ?_)
      refine wG rfl rfl (g_move rfl (.mk (v := .int _ _) rfl rfl)) ?_
      refine WL.nil ?_
      (refine hK _ _ ?_; clear hK)
      refine WC.block ?_
      refine WC.nilvec 3 1 ?_
      have e0 : Q0 ++ rw0.take 0 = Q0 := by rw [List.take_zero, List.append_nil]
      have e00 : P0 ++ prN rw0 0 = P0 := List.append_nil _
      refine WC.loopI2 (2993155353253689176481146537400586441013915031568448) (fun (p : Nat) (X : Option Addr × Nat) => [(71, iv p), (17, .slice X.1 p X.2)]) (fun p X => vec (some ⟨b63, 0, none⟩) (v * cap) (v * cap) 4 1 (bls (usL v cap (Q0 ++ rw0.take p))) :: vec (some ⟨b54, 0, none⟩) v v 3 1 (ldv (cntL v (Q0 ++ rw0.take p))) :: vec (some ⟨b58, 0, none⟩) (v * v) (v * v) 3 1 (ldv (shM v (P0 ++ prN rw0 p))) :: pt b7 LT [iv v, .slice A rs.length c, iv T, iv 2] :: vec A rs.length c 32 1 (rs.map IRow.v) :: rowsI rs :: vec X.1 p X.2 3 1 (ldv (rw0.take p)) :: []) (fun p _ => p ≤ k) (fun p _ => k - p) 0 (none, 0) ⟨rfl, rfl, trivial⟩ (by rw [e0, e00]; exact Imp.pick (by repeat (first | exact .head | apply Take.tail)) (Imp.pick (by repeat (first | exact .head | apply Take.tail)) (Imp.pick (by repeat (first | exact .head | apply Take.tail)) (Imp.pick (by repeat (first | exact .head | apply Take.tail)) (Imp.pick (by repeat (first | exact .head | apply Take.tail)) (Imp.pick (by repeat (first | exact .head | apply Take.tail)) (Imp.pick (by repeat (first | exact .head | apply Take.tail)) (Imp.nil _)))))))) (by omega) ?_
      rintro p ⟨X, cX⟩ U2 hp
      dsimp only
      by_cases hpk : p < k
      · obtain ⟨D, d1, d2, dv, dB, dle, dne⟩ := hstep p hpk
        have hh := hhm p hpk
        rw [d2] at hh
        obtain ⟨B, hB⟩ : ∃ B, B = tt * r + rkF gs g0 ((p + tt) % k) := ⟨_, rfl⟩
        rw [← hB] at hh dB dle
        have hTr : (tt + 1) * r ≤ T * r := Nat.mul_le_mul_right _ htT
        rw [Nat.succ_mul] at hTr
        have hBc : B < cap := by omega
        have e1 : Q0 ++ rw0.take p ++ [D] = Q0 ++ rw0.take (p + 1) := by rw [List.append_assoc, ← d1, ← take_snoc (by omega)]
        have hPn2 : (prN rw0 p).length ≤ p * (2 * k) := prN_len rw0 p (by omega)
        have hDc : D * cap + B < v * cap := at_lt dv hBc
        have mDc : IntKind.i64.wrap ((D : Int) * cap) = ((D * cap : Nat) : Int) := by rw [← Int.natCast_mul]; exact IntWalk.i64_in _ (by omega)
        have aDc : IntKind.i64.wrap (((D * cap : Nat) : Int) + B) = ((D * cap + B : Nat) : Int) := by rw [← Int.natCast_add]; exact IntWalk.i64_in _ (by omega)
        have hus : (bls (usL v cap (Q0 ++ rw0.take p)))[(D * cap + B) * 1]? = some (.bool false) := by rw [bls_get (by rw [usL_len]; exact hDc), usL_at _ dv hBc, decide_eq_false (by omega)]
        have hus2 : (bls (usL v cap (Q0 ++ rw0.take p))).set (D * cap + B) (.bool true) = bls (usL v cap (Q0 ++ rw0.take (p + 1))) := by rw [bls_set, usL_set _ dv hBc dB, e1]
        have hct : (ldv (cntL v (Q0 ++ rw0.take p)))[D * 1]? = some (iv B) := by rw [ldv_get (by rw [cntL_len]; exact dv), cntL_at _ dv, ← dB]
        have hct2 : (ldv (cntL v (Q0 ++ rw0.take p))).set D (iv ((B : Int) + 1)) = ldv (cntL v (Q0 ++ rw0.take (p + 1))) := by rw [show (B : Int) + 1 = ((B + 1 : Nat) : Int) from rfl, ldv_set, dB, cntL_set _ dv, e1]
        generalize hIX : D * cap + B = IX at *
        generalize hDX : D * cap = DX at *
        have hul := bls_len (usL v cap (Q0 ++ rw0.take p))
        rw [usL_len] at hul
        have hcl := ldv_len (cntL v (Q0 ++ rw0.take p))
        rw [cntL_len] at hcl
        generalize bls (usL v cap (Q0 ++ rw0.take p)) = us at *
        generalize ldv (cntL v (Q0 ++ rw0.take p)) = ct at *
        refine WC.seq fun K hK => ?_
        refine WC.region rfl ?_
        refine wG rfl rfl (g_lt rfl (.mk rfl rfl) (.mk rfl rfl) (decide_eq_true (by omega))) ?_
        refine WL.nil ?_
        (refine hK _ _ ?_; clear hK)
        refine WC.seq fun K hK => ?_
        refine WC.cond_true (.mk rfl rfl) ?_
        refine WC.skip ?_
        (refine hK _ _ ?_; clear hK)
        refine WC.seq fun K hK => ?_
        refine WC.block ?_
        refine WC.seq fun K hK => ?_
        refine WC.region rfl ?_
        refine wG rfl rfl (g_move rfl (.mk (v := .int _ _) rfl rfl)) ?_
        refine wG rfl rfl (g_assign rfl (.mk (v := .int _ _) rfl rfl)) ?_
        refine WL.nil ?_
        (refine hK _ _ ?_; clear hK)
        refine WC.seq fun K hK => ?_
        refine WC.region rfl ?_
        refine wG rfl rfl (g_loadA rfl (.mk rfl rfl) rfl rfl (rdr_pt (cs := [iv v, .slice A rs.length c, iv T, iv 2]) (by first | ((repeat (first | exact .head _ | apply List.Mem.tail)); done) | fail) (g4 A c rs.length))) ?_
        refine wG rfl rfl (g_move rfl (.mk (v := .int _ _) rfl rfl)) ?_
        refine wG rfl rfl (g_move rfl (.mk (v := .int _ _) rfl rfl)) ?_
        refine WL.want rfl (WL1.callP rfl rfl rfl (.cons (.mk (v := .agg _) rfl rfl) (.cons (.mk (v := .int _ _) rfl rfl) (.cons (.mk (v := .int _ _) rfl rfl) .nil))) (fun w hw => hh w (IMat.of_rows hw (by first | ((repeat (first | exact .head _ | apply List.Mem.tail)); done) | fail) (by first | ((repeat (first | exact .head _ | apply List.Mem.tail)); done) | fail) rfl)) ?_)
        refine wG rfl rfl (g_move rfl (.mk (v := .tuple _) rfl rfl)) ?_
        refine wG rfl rfl (g_extract rfl (.mk rfl rfl) rfl) ?_
        refine wG rfl rfl (g_extract rfl (.mk rfl rfl) rfl) ?_
        refine WL.want rfl (WL1.alloc rfl rfl rfl rfl (fun b19 => ?_))
        refine WL.want rfl (WL1.storeAll rfl rfl (.mk rfl rfl) (.mk rfl rfl) rfl (all1 rfl) (by first | rfl | (simp [Blk.len]; done)) (.head) ?_)
        refine wG rfl rfl (g_assign rfl (.mk (v := .int _ _) rfl rfl)) ?_
        refine WL.nil ?_
        (refine hK _ _ ?_; clear hK)
        refine WC.seq fun K hK => ?_
        refine WC.seq fun K hK => ?_
        refine WC.quiet rfl (by kernel_rfl) (by decide +kernel) ?_
        refine WQ.want rfl (WQ1.give rfl (g_move rfl (.mk (v := .int _ _) rfl rfl)) ?_)
        refine WQ.want rfl (WQ1.give rfl (g_ne rfl (.mk rfl rfl) (.mk rfl rfl) (decide_eq_false (by omega))) ?_)
        refine WQ.want rfl (WQ1.give rfl (g_move rfl (.mk (v := .bool _) rfl rfl)) ?_)
        refine WQ.wantG rfl rfl rfl rfl (WQ1.give rfl (g_fieldAddr (off := 0) rfl (.mk rfl rfl) rfl (fun _ _ => rfl)) ?_)
        refine WQ.wantG rfl rfl rfl rfl (WQ1.give rfl (g_load rfl (.mk rfl rfl) rfl (rd_pt (.head _) rfl)) ?_)
        refine WQ.wantG rfl rfl rfl rfl (WQ1.give rfl (g_lt rfl (.mk rfl rfl) (.mk rfl rfl) (decide_eq_false (by omega))) ?_)
        refine WQ.want rfl (WQ1.give rfl (g_pickF rfl (.mk rfl rfl) (.mk (v := .bool _) rfl rfl)) ?_)
        refine WQ.want rfl (WQ1.give rfl (g_move rfl (.mk (v := .bool _) rfl rfl)) ?_)
        refine WQ.wantG rfl rfl rfl rfl (WQ1.give rfl (g_fieldAddr (off := 0) rfl (.mk rfl rfl) rfl (fun _ _ => rfl)) ?_)
        refine WQ.wantG rfl rfl rfl rfl (WQ1.give rfl (g_load rfl (.mk rfl rfl) rfl (rd_pt (.head _) rfl)) ?_)
        refine WQ.wantG rfl rfl rfl rfl (WQ1.give rfl (g_move rfl (.mk (v := .int _ _) rfl rfl)) ?_)
        refine WQ.wantG rfl rfl rfl rfl (WQ1.give rfl (g_ge rfl (.mk rfl rfl) (.mk rfl rfl) (decide_eq_false (by omega))) ?_)
        refine WQ.want rfl (WQ1.give rfl (g_pickF rfl (.mk rfl rfl) (.mk (v := .bool _) rfl rfl)) ?_)
        refine WQ.want rfl (WQ1.give rfl (g_move rfl (.mk (v := .bool _) rfl rfl)) ?_)
        refine WQ.wantG rfl rfl rfl rfl (WQ1.give rfl (g_fieldAddr (off := 1) rfl (.mk rfl rfl) rfl (fun _ _ => rfl)) ?_)
        refine WQ.wantG rfl rfl rfl rfl (WQ1.give rfl (g_load rfl (.mk rfl rfl) rfl (rd_pt (.head _) rfl)) ?_)
        refine WQ.wantG rfl rfl rfl rfl (WQ1.give rfl (g_lt rfl (.mk rfl rfl) (.mk rfl rfl) (decide_eq_false (by omega))) ?_)
        refine WQ.want rfl (WQ1.give rfl (g_pickF rfl (.mk rfl rfl) (.mk (v := .bool _) rfl rfl)) ?_)
        refine WQ.want rfl (WQ1.give rfl (g_move rfl (.mk (v := .bool _) rfl rfl)) ?_)
        refine WQ.wantG rfl rfl rfl rfl (WQ1.give rfl (g_fieldAddr (off := 1) rfl (.mk rfl rfl) rfl (fun _ _ => rfl)) ?_)
        refine WQ.wantG rfl rfl rfl rfl (WQ1.give rfl (g_load rfl (.mk rfl rfl) rfl (rd_pt (.head _) rfl)) ?_)
        refine WQ.wantG rfl rfl rfl rfl (WQ1.give rfl (g_loadA rfl (.mk rfl rfl) rfl rfl (rdr_pt (cs := [iv v, .slice A rs.length c, iv T, iv 2]) (by first | ((repeat (first | exact .head _ | apply List.Mem.tail)); done) | fail) (g4 A c rs.length))) ?_)
        refine WQ.wantG rfl rfl rfl rfl (WQ1.callP rfl rfl rfl (.cons (.mk (v := .agg _) rfl rfl) .nil) (fun w hw => hblk A c rs w hrs (IMat.of_rows hw (by first | ((repeat (first | exact .head _ | apply List.Mem.tail)); done) | fail) (by first | ((repeat (first | exact .head _ | apply List.Mem.tail)); done) | fail) rfl)) ?_)
        refine WQ.wantG rfl rfl rfl rfl (WQ1.give rfl (g_ge rfl (.mk rfl rfl) (.mk rfl rfl) (decide_eq_false (by omega))) ?_)
        refine WQ.want rfl (WQ1.give rfl (g_pickF rfl (.mk rfl rfl) (.mk (v := .bool _) rfl rfl)) ?_)
        refine WQ.want rfl (WQ1.give rfl (g_move rfl (.mk (v := .bool _) rfl rfl)) ?_)
        refine WQ.wantG rfl rfl rfl rfl (WQ1.give rfl (g_move rfl (.mk (v := .slice _ _ _) rfl rfl)) ?_)
        refine WQ.wantG rfl rfl rfl rfl (WQ1.give rfl (g_fieldAddr (off := 0) rfl (.mk rfl rfl) rfl (fun _ _ => rfl)) ?_)
        refine WQ.wantG rfl rfl rfl rfl (WQ1.give rfl (g_load rfl (.mk rfl rfl) rfl (rd_pt (.head _) rfl)) ?_)
        refine WQ.wantG rfl rfl rfl rfl (WQ1.give rfl (g_loadA rfl (.mk rfl rfl) rfl rfl (rdr_pt (cs := [iv v, .slice A rs.length c, iv T, iv 2]) (by first | ((repeat (first | exact .head _ | apply List.Mem.tail)); done) | fail) (g4 A c rs.length))) ?_)
        refine WQ.wantG rfl rfl rfl rfl (WQ1.callP rfl rfl rfl (.cons (.mk (v := .agg _) rfl rfl) .nil) (fun w hw => hblk A c rs w hrs (IMat.of_rows hw (by first | ((repeat (first | exact .head _ | apply List.Mem.tail)); done) | fail) (by first | ((repeat (first | exact .head _ | apply List.Mem.tail)); done) | fail) rfl)) ?_)
        refine WQ.wantG rfl rfl rfl rfl (WQ1.give rfl (g_mul rfl (.mk rfl rfl) (.mk rfl rfl) mDc) ?_)
        refine WQ.wantG rfl rfl rfl rfl (WQ1.give rfl (g_fieldAddr (off := 1) rfl (.mk rfl rfl) rfl (fun _ _ => rfl)) ?_)
        refine WQ.wantG rfl rfl rfl rfl (WQ1.give rfl (g_load rfl (.mk rfl rfl) rfl (rd_pt (.head _) rfl)) ?_)
        refine WQ.wantG rfl rfl rfl rfl (WQ1.give rfl (g_add rfl (.mk rfl rfl) (.mk rfl rfl) aDc) ?_)
        refine WQ.wantG rfl rfl rfl rfl (WQ1.give rfl (g_indexAddr (sz := 1) rfl (.mk rfl rfl) (.mk rfl rfl) rfl rfl rfl (by omega) (fun _ _ => rfl)) ?_)
        refine WQ.wantG rfl rfl rfl rfl (WQ1.give rfl (g_load rfl (.mk rfl rfl) rfl (rd_vec (by first | ((repeat (first | exact .head _ | apply List.Mem.tail)); done) | fail) hus)) ?_)
        refine WQ.want rfl (WQ1.give rfl (g_pickF rfl (.mk rfl rfl) (.mk (v := .bool _) rfl rfl)) ?_)
        refine WQ.nil ?_
        (refine hK _ _ ?_; clear hK)
        refine WC.cond_false (.mk rfl rfl) ?_
        refine WC.skip ?_
        (refine hK _ _ ?_; clear hK)
        refine WC.seq fun K hK => ?_
        refine WC.untilL [10] rfl (by kernel_rfl) ?_
        refine WB.takeP 0 rfl (by decide +kernel) (by decide +kernel) (by decide +kernel) (by decide +kernel) rfl rfl (.inr (Imp.sub (by first | ((repeat (first | exact List.nil_sublist _ | exact List.Sublist.refl _ | apply List.Sublist.cons_cons | apply List.Sublist.cons)); done) | fail))) (g_move rfl (.mk (v := .slice _ _ _) rfl rfl)) ?_
        refine WB.takeP 1 rfl (by decide +kernel) (by decide +kernel) (by decide +kernel) (by decide +kernel) rfl rfl (.inr (Imp.sub (by first | ((repeat (first | exact List.nil_sublist _ | exact List.Sublist.refl _ | apply List.Sublist.cons_cons | apply List.Sublist.cons)); done) | fail))) (g_fieldAddr (off := 0) rfl (.mk rfl rfl) rfl (fun _ _ => rfl)) ?_
        refine WB.take 2 rfl (by decide +kernel) (by decide +kernel) (by decide +kernel) (by decide +kernel) rfl rfl (Imp.sub (by first | ((repeat (first | exact List.nil_sublist _ | exact List.Sublist.refl _ | apply List.Sublist.cons_cons | apply List.Sublist.cons)); done) | fail)) (g_load rfl (.mk rfl rfl) rfl (rd_pt (.head _) rfl)) ?_
        refine WB.take 3 rfl (by decide +kernel) (by decide +kernel) (by decide +kernel) (by decide +kernel) rfl rfl (Imp.sub (by first | ((repeat (first | exact List.nil_sublist _ | exact List.Sublist.refl _ | apply List.Sublist.cons_cons | apply List.Sublist.cons)); done) | fail)) (g_loadA rfl (.mk rfl rfl) rfl rfl (rdr_pt (cs := [iv v, .slice A rs.length c, iv T, iv 2]) (by first | ((repeat (first | exact .head _ | apply List.Mem.tail)); done) | fail) (g4 A c rs.length))) ?_
        refine WB.takeP 6 rfl (by decide +kernel) (by decide +kernel) (by decide +kernel) (by decide +kernel) rfl rfl (.inr (Imp.sub (by first | ((repeat (first | exact List.nil_sublist _ | exact List.Sublist.refl _ | apply List.Sublist.cons_cons | apply List.Sublist.cons)); done) | fail))) (g_fieldAddr (off := 1) rfl (.mk rfl rfl) rfl (fun _ _ => rfl)) ?_
        refine WB.take 7 rfl (by decide +kernel) (by decide +kernel) (by decide +kernel) (by decide +kernel) rfl rfl (Imp.sub (by first | ((repeat (first | exact List.nil_sublist _ | exact List.Sublist.refl _ | apply List.Sublist.cons_cons | apply List.Sublist.cons)); done) | fail)) (g_load rfl (.mk rfl rfl) rfl (rd_pt (.head _) rfl)) ?_
        refine WB.one 4 (by decide +kernel) rfl rfl ?_
        refine WL1.callP rfl rfl rfl (.cons (.mk (v := .agg _) rfl rfl) .nil) (fun w hw => hblk A c rs w hrs (IMat.of_rows hw (by first | ((repeat (first | exact .head _ | apply List.Mem.tail)); done) | fail) (by first | ((repeat (first | exact .head _ | apply List.Mem.tail)); done) | fail) rfl)) ?_
        refine WL.nil ?_
        refine ⟨.inr (Imp.sub (by first | ((repeat (first | exact List.nil_sublist _ | exact List.Sublist.refl _ | apply List.Sublist.cons_cons | apply List.Sublist.cons)); done) | fail)), ?_⟩
        refine WB.takeP 5 rfl (by decide +kernel) (by decide +kernel) (by decide +kernel) (by decide +kernel) rfl rfl (.inr (Imp.sub (by first | ((repeat (first | exact List.nil_sublist _ | exact List.Sublist.refl _ | apply List.Sublist.cons_cons | apply List.Sublist.cons)); done) | fail))) (g_mul rfl (.mk rfl rfl) (.mk rfl rfl) mDc) ?_
        refine WB.takeP 8 rfl (by decide +kernel) (by decide +kernel) (by decide +kernel) (by decide +kernel) rfl rfl (.inr (Imp.sub (by first | ((repeat (first | exact List.nil_sublist _ | exact List.Sublist.refl _ | apply List.Sublist.cons_cons | apply List.Sublist.cons)); done) | fail))) (g_add rfl (.mk rfl rfl) (.mk rfl rfl) aDc) ?_
        refine WB.takeP 9 rfl (by decide +kernel) (by decide +kernel) (by decide +kernel) (by decide +kernel) rfl rfl (.inr (Imp.sub (by first | ((repeat (first | exact List.nil_sublist _ | exact List.Sublist.refl _ | apply List.Sublist.cons_cons | apply List.Sublist.cons)); done) | fail))) (g_indexAddr (sz := 1) rfl (.mk rfl rfl) (.mk rfl rfl) rfl rfl rfl (by omega) (fun _ _ => rfl)) ?_
        refine WB.one 10 (by decide +kernel) rfl rfl ?_
        refine WL1.storeV1 rfl rfl (.mk rfl rfl) (.mk (v := .bool _) rfl rfl) rfl rfl (by first | omega | (simp; done) | (simp; omega)) (.tail (.head)) ?_
        refine WL.nil ?_
        refine ⟨.inl (by decide +kernel), ?_⟩
        refine WB.done (by decide +kernel) ?_
        (refine hK _ _ ?_; clear hK)
        refine WC.seq fun K hK => ?_
        refine WC.region rfl ?_
        refine wG rfl rfl (g_move rfl (.mk (v := .slice _ _ _) rfl rfl)) ?_
        refine wG rfl rfl (g_fieldAddr (off := 0) rfl (.mk rfl rfl) rfl (fun _ _ => rfl)) ?_
        refine wG rfl rfl (g_load rfl (.mk rfl rfl) rfl (rd_pt (.head _) rfl)) ?_
        refine wG rfl rfl (g_indexAddr (sz := 1) rfl (.mk rfl rfl) (.mk rfl rfl) rfl rfl rfl (by omega) (fun _ _ => rfl)) ?_
        refine wG rfl rfl (g_load rfl (.mk rfl rfl) rfl (rd_vec (by first | ((repeat (first | exact .head _ | apply List.Mem.tail)); done) | fail) hct)) ?_
        refine wG rfl rfl (g_add rfl (.mk rfl rfl) (.mk rfl rfl) (IntWalk.i64_in _ (by omega))) ?_
        refine wG rfl rfl (g_indexAddr (sz := 1) rfl (.mk rfl rfl) (.mk rfl rfl) rfl rfl rfl (by omega) (fun _ _ => rfl)) ?_
        refine WL.want rfl (WL1.storeV1 rfl rfl (.mk rfl rfl) (.mk (v := .int _ _) rfl rfl) rfl rfl (by first | omega | (simp; done) | (simp; omega)) (.tail (.tail (.head))) ?_)
        refine WL.nil ?_
        (refine hK _ _ ?_; clear hK)
        refine WC.seq fun K hK => ?_
        refine WC.seq fun K hK => ?_
        refine WC.region rfl ?_
        refine wG rfl rfl (g_move rfl (.mk (v := .slice _ _ _) rfl rfl)) ?_
        refine wG rfl rfl (g_len rfl (.mk rfl rfl) rfl) ?_
        refine wG rfl rfl (g_move rfl (.mk (v := .int _ _) rfl rfl)) ?_
        refine WL.nil ?_
        (refine hK _ _ ?_; clear hK)
        refine WC.block ?_
        have hP2 : g * (k * (2 * k)) ≤ 4096 * 72 := Nat.mul_le_mul (by omega) (Nat.mul_le_mul hk6 (Nat.mul_le_mul_left 2 hk6) : k * (2 * k) ≤ 6 * (2 * 6))
        have hP3 : p * (2 * k) ≤ 6 * 12 := Nat.mul_le_mul (by omega) (by omega)
        refine WC.imp (M := vec (some ⟨b58, 0, none⟩) (v * v) (v * v) 3 1 (ldv (shM v (P0 ++ prN rw0 p ++ []))) :: vec (some ⟨b63, 0, none⟩) (v * cap) (v * cap) 4 1 (bls (usL v cap (Q0 ++ rw0.take (p + 1)))) :: vec (some ⟨b54, 0, none⟩) v v 3 1 (ldv (cntL v (Q0 ++ rw0.take (p + 1)))) :: pt b7 LT [iv v, .slice A rs.length c, iv T, iv 2] :: vec A rs.length c 32 1 (rs.map IRow.v) :: rowsI rs :: vec X p cX 3 1 (ldv (rw0.take p)) :: pt b19 PT [iv D, iv B] :: []) (by
          rw [show IX * 1 = IX from Nat.mul_one _, show D * 1 = D from Nat.mul_one _, hus2, show Value.int IntKind.i64 ((B : Int) + 1) = iv ((B : Int) + 1) from rfl, hct2, List.append_nil]
          exact Imp.pick (by repeat (first | exact .head | apply Take.tail)) (Imp.pick (by repeat (first | exact .head | apply Take.tail)) (Imp.pick (by repeat (first | exact .head | apply Take.tail)) (Imp.pick (by repeat (first | exact .head | apply Take.tail)) (Imp.pick (by repeat (first | exact .head | apply Take.tail)) (Imp.pick (by repeat (first | exact .head | apply Take.tail)) (Imp.pick (by repeat (first | exact .head | apply Take.tail)) (Imp.pick (by repeat (first | exact .head | apply Take.tail)) (Imp.nil _))))))))) ?_
        refine WC.loop (46768052046139749655476928060425458618859197038592) (fun e : Nat => [(138, iv e)]) (fun e => vec (some ⟨b58, 0, none⟩) (v * v) (v * v) 3 1 (ldv (shM v (P0 ++ prN rw0 p ++ ((rw0.take e).flatMap fun d => [(d, D), (D, d)])))) :: vec (some ⟨b63, 0, none⟩) (v * cap) (v * cap) 4 1 (bls (usL v cap (Q0 ++ rw0.take (p + 1)))) :: vec (some ⟨b54, 0, none⟩) v v 3 1 (ldv (cntL v (Q0 ++ rw0.take (p + 1)))) :: pt b7 LT [iv v, .slice A rs.length c, iv T, iv 2] :: vec A rs.length c 32 1 (rs.map IRow.v) :: rowsI rs :: vec X p cX 3 1 (ldv (rw0.take p)) :: pt b19 PT [iv D, iv B] :: []) (fun e => e ≤ p) (fun e => p - e) 0 ⟨rfl, trivial⟩ (.refl _) (by omega) ?_
        intro e U3 he
        by_cases hep : e < p
        · obtain ⟨dd, hd1, -, hdv, -, -, -⟩ := hstep e (by omega)
          have hlt : (rw0.take p).length = p := by rw [List.length_take]; omega
          have hgX : (ldv (rw0.take p))[e * 1]? = some (iv dd) := by rw [ldv_get (by omega), nth_take'' hep, hd1]
          have hfl : (rw0.take (e + 1)).flatMap (fun d => [(d, D), (D, d)]) = (rw0.take e).flatMap (fun d => [(d, D), (D, d)]) ++ [(dd, D)] ++ [(D, dd)] := by rw [take_snoc (by omega), List.flatMap_append, hd1, List.append_assoc]; rfl
          have hfn : ((rw0.take e).flatMap (fun d => [(d, D), (D, d)])).length ≤ 2 * 6 := by
            have h3 : ∀ q : List Nat, (q.flatMap fun d => [(d, D), (D, d)]).length = 2 * q.length := fun q => by
              induction q with
              | nil => rfl
              | cons x q ih => rw [List.flatMap_cons, List.length_append, ih]; show 2 + 2 * q.length = 2 * (q.length + 1); omega
            rw [h3, List.length_take]; omega
          have hPE : P0 ++ prN rw0 p ++ (rw0.take (e + 1)).flatMap (fun d => [(d, D), (D, d)]) = P0 ++ prN rw0 p ++ (rw0.take e).flatMap (fun d => [(d, D), (D, d)]) ++ [(dd, D)] ++ [(D, dd)] := by rw [hfl, ← List.append_assoc, ← List.append_assoc]
          have hPEn : (P0 ++ prN rw0 p ++ (rw0.take e).flatMap (fun d => [(d, D), (D, d)])).length ≤ 300000 := by rw [List.length_append, List.length_append]; omega
          generalize P0 ++ prN rw0 p ++ (rw0.take e).flatMap (fun d => [(d, D), (D, d)]) = PE at *
          have b1 := cnS_le PE dd D
          have b2 := cnS_le (PE ++ [(dd, D)]) D dd
          rw [List.length_append, show [(dd, D)].length = 1 from rfl] at b2
          have i1 : dd * v + D < v * v := at_lt hdv dv
          have i2 : D * v + dd < v * v := at_lt dv hdv
          have r1 : (ldv (shM v PE))[(dd * v + D) * 1]? = some (iv (cnS PE dd D : Nat)) := by rw [ldv_get (by rw [shM_len]; exact i1), shM_at _ hdv dv]
          have s1 : (ldv (shM v PE)).set ((dd * v + D) * 1) (iv ((cnS PE dd D : Nat) + 1)) = ldv (shM v (PE ++ [(dd, D)])) := by rw [Nat.mul_one, show ((cnS PE dd D : Nat) : Int) + 1 = ((cnS PE dd D + 1 : Nat) : Int) from rfl, ldv_set, shM_set _ hdv dv]
          have r2 : ((ldv (shM v PE)).set ((dd * v + D) * 1) (iv ((cnS PE dd D : Nat) + 1)))[(D * v + dd) * 1]? = some (iv (cnS (PE ++ [(dd, D)]) D dd : Nat)) := by rw [s1, ldv_get (by rw [shM_len]; exact i2), shM_at _ dv hdv]
          have s2 : ((ldv (shM v PE)).set ((dd * v + D) * 1) (iv ((cnS PE dd D : Nat) + 1))).set ((D * v + dd) * 1) (iv ((cnS (PE ++ [(dd, D)]) D dd : Nat) + 1)) = ldv (shM v (PE ++ [(dd, D)] ++ [(D, dd)])) := by rw [s1, Nat.mul_one, show ((cnS (PE ++ [(dd, D)]) D dd : Nat) : Int) + 1 = ((cnS (PE ++ [(dd, D)]) D dd + 1 : Nat) : Int) from rfl, ldv_set, shM_set _ dv hdv]
          have hsl := ldv_len (shM v PE)
          rw [shM_len] at hsl
          rw [← hPE] at s2
          clear hPE hfl s1
          generalize cnS PE dd D = x1 at *
          generalize cnS (PE ++ [(dd, D)]) D dd = x2 at *
          generalize ldv (shM v PE) = sh at *
          have m1 : IntKind.i64.wrap ((dd : Int) * v) = ((dd * v : Nat) : Int) := by rw [← Int.natCast_mul]; exact IntWalk.i64_in _ (by omega)
          have m2 : IntKind.i64.wrap ((D : Int) * v) = ((D * v : Nat) : Int) := by rw [← Int.natCast_mul]; exact IntWalk.i64_in _ (by omega)
          have a1 : IntKind.i64.wrap (((dd * v : Nat) : Int) + D) = ((dd * v + D : Nat) : Int) := by rw [← Int.natCast_add]; exact IntWalk.i64_in _ (by omega)
          have a2 : IntKind.i64.wrap (((D * v : Nat) : Int) + dd) = ((D * v + dd : Nat) : Int) := by rw [← Int.natCast_add]; exact IntWalk.i64_in _ (by omega)
          generalize dd * v + D = I1 at *
          generalize D * v + dd = I2 at *
          generalize dd * v = J1 at *
          generalize D * v = J2 at *
          refine WC.seq fun K hK => ?_
          refine WC.region rfl ?_
          refine wG rfl rfl (g_lt rfl (.mk rfl rfl) (.mk rfl rfl) (decide_eq_true (by omega))) ?_
          refine WL.nil ?_
          (refine hK _ _ ?_; clear hK)
          refine WC.seq fun K hK => ?_
          refine WC.cond_true (.mk rfl rfl) ?_
          refine WC.skip ?_
          (refine hK _ _ ?_; clear hK)
          refine WC.seq fun K hK => ?_
          refine WC.block ?_
          refine WC.seq fun K hK => ?_
          refine WC.region rfl ?_
          refine wG rfl rfl (g_indexAddr (sz := 1) rfl (.mk rfl rfl) (.mk rfl rfl) rfl rfl rfl (by omega) (fun w hw => vec_some hw (.tail _ (.tail _ (.tail _ (.tail _ (.tail _ (.tail _ (.head _))))))) (by omega))) ?_
          refine wG rfl rfl (g_load rfl (.mk rfl rfl) rfl (rd_vec (by first | ((repeat (first | exact .head _ | apply List.Mem.tail)); done) | fail) hgX)) ?_
          refine wG rfl rfl (g_assign rfl (.mk (v := .int _ _) rfl rfl)) ?_
          refine WL.nil ?_
          (refine hK _ _ ?_; clear hK)
          refine WC.seq fun K hK => ?_
          refine WC.region rfl ?_
          refine wG rfl rfl (g_move rfl (.mk (v := .slice _ _ _) rfl rfl)) ?_
          refine wG rfl rfl (g_move rfl (.mk (v := .int _ _) rfl rfl)) ?_
          refine wG rfl rfl (g_move rfl (.mk (v := .int _ _) rfl rfl)) ?_
          refine wG rfl rfl (g_mul rfl (.mk rfl rfl) (.mk rfl rfl) m1) ?_
          refine wG rfl rfl (g_fieldAddr (off := 0) rfl (.mk rfl rfl) rfl (fun _ _ => rfl)) ?_
          refine wG rfl rfl (g_load rfl (.mk rfl rfl) rfl (rd_pt (.tail _ (.tail _ (.tail _ (.tail _ (.tail _ (.tail _ (.tail _ (.head _)))))))) rfl)) ?_
          refine wG rfl rfl (g_add rfl (.mk rfl rfl) (.mk rfl rfl) a1) ?_
          refine wG rfl rfl (g_indexAddr (sz := 1) rfl (.mk rfl rfl) (.mk rfl rfl) rfl rfl rfl (by omega) (fun _ _ => rfl)) ?_
          refine wG rfl rfl (g_load rfl (.mk rfl rfl) rfl (rd_vec (by first | ((repeat (first | exact .head _ | apply List.Mem.tail)); done) | fail) r1)) ?_
          refine wG rfl rfl (g_add rfl (.mk rfl rfl) (.mk rfl rfl) (IntWalk.i64_in _ (by omega))) ?_
          refine wG rfl rfl (g_indexAddr (sz := 1) rfl (.mk rfl rfl) (.mk rfl rfl) rfl rfl rfl (by omega) (fun _ _ => rfl)) ?_
          refine WL.want rfl (WL1.storeV1 rfl rfl (.mk rfl rfl) (.mk (v := .int _ _) rfl rfl) rfl rfl (by first | omega | (simp; done) | (simp; omega)) (.head) ?_)
          refine WL.nil ?_
          (refine hK _ _ ?_; clear hK)
          refine WC.region rfl ?_
          refine wG rfl rfl (g_move rfl (.mk (v := .slice _ _ _) rfl rfl)) ?_
          refine wG rfl rfl (g_fieldAddr (off := 0) rfl (.mk rfl rfl) rfl (fun _ _ => rfl)) ?_
          refine wG rfl rfl (g_load rfl (.mk rfl rfl) rfl (rd_pt (.tail _ (.tail _ (.tail _ (.tail _ (.tail _ (.tail _ (.tail _ (.head _)))))))) rfl)) ?_
          refine wG rfl rfl (g_move rfl (.mk (v := .int _ _) rfl rfl)) ?_
          refine wG rfl rfl (g_mul rfl (.mk rfl rfl) (.mk rfl rfl) m2) ?_
          refine wG rfl rfl (g_move rfl (.mk (v := .int _ _) rfl rfl)) ?_
          refine wG rfl rfl (g_add rfl (.mk rfl rfl) (.mk rfl rfl) a2) ?_
          refine wG rfl rfl (g_indexAddr (sz := 1) rfl (.mk rfl rfl) (.mk rfl rfl) rfl rfl rfl (by omega) (fun _ _ => rfl)) ?_
          refine wG rfl rfl (g_load rfl (.mk rfl rfl) rfl (rd_vec (by first | ((repeat (first | exact .head _ | apply List.Mem.tail)); done) | fail) r2)) ?_
          refine wG rfl rfl (g_add rfl (.mk rfl rfl) (.mk rfl rfl) (IntWalk.i64_in _ (by omega))) ?_
          refine wG rfl rfl (g_indexAddr (sz := 1) rfl (.mk rfl rfl) (.mk rfl rfl) rfl rfl rfl (by omega) (fun _ _ => rfl)) ?_
          refine WL.want rfl (WL1.storeV1 rfl rfl (.mk rfl rfl) (.mk (v := .int _ _) rfl rfl) rfl rfl (by first | omega | (simp; done) | (simp; omega)) (.head) ?_)
          refine WL.nil ?_
          (refine hK _ _ ?_; clear hK)
          refine WC.region rfl ?_
          refine wG rfl rfl (g_add rfl (.mk rfl rfl) (.mk rfl rfl) (IntWalk.i64_in _ (by omega))) ?_
          refine wG rfl rfl (g_move rfl (.mk (v := .int _ _) rfl rfl)) ?_
          refine WL.nil ?_
          exact ⟨e + 1, (by repeat (first | with_reducible exact Out.refl _ _ | refine Out.set rfl ?_ | refine Out.put rfl ?_ | refine Out.sets rfl ?_ | refine Out.hav rfl ?_ | exact Out.refl _ _)), ⟨rfl, trivial⟩, (by rw [← s2]; exact (by repeat (first | exact List.nil_sublist _ | exact List.Sublist.refl _ | apply List.Sublist.cons_cons | apply List.Sublist.cons))), by omega, by omega⟩
        · obtain rfl : e = p := by omega
          have hX1 : ldv (rw0.take e) ++ [iv D] = ldv (rw0.take (e + 1)) := by rw [take_snoc (by omega), d1]; unfold ldv; rw [List.map_append]; rfl
          have hP4 : P0 ++ prN rw0 e ++ ((rw0.take e).flatMap fun d => [(d, D), (D, d)]) = P0 ++ prN rw0 (e + 1) := by rw [← d1, List.append_assoc]; rfl
          refine WC.seq fun K hK => ?_
          refine WC.region rfl ?_
          refine wG rfl rfl (g_lt rfl (.mk rfl rfl) (.mk rfl rfl) (decide_eq_false (by omega))) ?_
          refine WL.nil ?_
          (refine hK _ _ ?_; clear hK)
          refine WC.seq fun K hK => ?_
          refine WC.cond_false (.mk rfl rfl) ?_
          refine WC.exit ?_
          (clear hK; refine hK _ _ ?_; clear hK)
          refine WC.region rfl ?_
          refine wG rfl rfl (g_move rfl (.mk (v := .slice _ _ _) rfl rfl)) ?_
          refine wG rfl rfl (g_fieldAddr (off := 0) rfl (.mk rfl rfl) rfl (fun _ _ => rfl)) ?_
          refine wG rfl rfl (g_load rfl (.mk rfl rfl) rfl (rd_pt (.tail _ (.tail _ (.tail _ (.tail _ (.tail _ (.tail _ (.tail _ (.head _)))))))) rfl)) ?_
          refine WL.want rfl (WL1.lit (cs := [_]) elI rfl rfl rfl (.cons (.mk (v := .int _ _) rfl rfl) .nil) rfl (by first | (simp [Value.cells]; done) | fail) rfl rfl (fun b168 => ?_))
          refine WL.want rfl (WL1.append elI rfl rfl (.mk rfl rfl) (.mk rfl rfl) (.tail (.tail (.tail (.tail (.tail (.tail (.tail (.head)))))))) (fun w hw => Sl.of_vec hw (.head _)) (all1 rfl) (by unfold maxLen; omega) (by omega) (fun A169 c169 => ?_))
          refine wG rfl rfl (g_assign rfl (.mk (v := .slice _ _ _) rfl rfl)) ?_
          refine WL.nil ?_
          (refine hK _ _ ?_; clear hK)
          refine WC.region rfl ?_
          refine wG rfl rfl (g_add rfl (.mk rfl rfl) (.mk rfl rfl) (IntWalk.i64_in _ (by omega))) ?_
          refine wG rfl rfl (g_move rfl (.mk (v := .int _ _) rfl rfl)) ?_
          refine WL.nil ?_
          refine ⟨e + 1, (A169, c169), (by repeat (first | with_reducible exact Out.refl _ _ | refine Out.set rfl ?_ | refine Out.put rfl ?_ | refine Out.sets rfl ?_ | refine Out.hav rfl ?_ | exact Out.refl _ _)), ⟨rfl, rfl, trivial⟩, ?_, by omega, by omega⟩
          dsimp only
          rw [← hX1, ← hP4]
          exact Imp.pick (by repeat (first | exact .head | apply Take.tail)) (Imp.pick (by repeat (first | exact .head | apply Take.tail)) (Imp.pick (by repeat (first | exact .head | apply Take.tail)) (Imp.pick (by repeat (first | exact .head | apply Take.tail)) (Imp.pick (by repeat (first | exact .head | apply Take.tail)) (Imp.pick (by repeat (first | exact .head | apply Take.tail)) (Imp.pick (by repeat (first | exact .head | apply Take.tail)) (Imp.nil _)))))))
      · obtain rfl : p = k := by omega
        have hrt : rw0.take p = rw0 := List.take_of_length_le (by omega)
        refine WC.seq fun K hK => ?_
        refine WC.region rfl ?_
        refine wG rfl rfl (g_lt rfl (.mk rfl rfl) (.mk rfl rfl) (decide_eq_false (by omega))) ?_
        refine WL.nil ?_
        (refine hK _ _ ?_; clear hK)
        refine WC.seq fun K hK => ?_
        refine WC.cond_false (.mk rfl rfl) ?_
        refine WC.exit ?_
        (clear hK; refine hK _ _ ?_; clear hK)
        refine WC.region rfl ?_
        refine wG rfl rfl (g_add rfl (.mk rfl rfl) (.mk rfl rfl) (IntWalk.i64_in _ (by omega))) ?_
        refine wG rfl rfl (g_move rfl (.mk (v := .int _ _) rfl rfl)) ?_
        refine WL.nil ?_
        exact ⟨g + 1, (by repeat (first | with_reducible exact Out.refl _ _ | refine Out.set rfl ?_ | refine Out.put rfl ?_ | refine Out.sets rfl ?_ | refine Out.hav rfl ?_ | exact Out.refl _ _)), ⟨rfl, trivial⟩, (by rw [hQn, hPn, hrt]; exact (by repeat (first | exact List.nil_sublist _ | exact List.Sublist.refl _ | apply List.Sublist.cons_cons | apply List.Sublist.cons))), by omega, by omega⟩
    · obtain rfl : g = T * rs.length := by omega
      refine WC.seq fun K hK => ?_
      refine WC.region rfl ?_
      refine wG rfl rfl (g_lt rfl (.mk rfl rfl) (.mk rfl rfl) (decide_eq_false (by omega))) ?_
      refine WL.nil ?_
      (refine hK _ _ ?_; clear hK)
      refine WC.seq fun K hK => ?_
      refine WC.cond_false (.mk rfl rfl) ?_
      refine WC.exit ?_
      (clear hK; refine hK _ _ ?_; clear hK)
      refine WC.seq fun K hK => ?_
      refine WC.seq fun K hK => ?_
      refine WC.region rfl ?_
      refine wG rfl rfl (g_move rfl (.mk (v := .int _ _) rfl rfl)) ?_
      refine wG rfl rfl (g_move rfl (.mk (v := .int _ _) rfl rfl)) ?_
      refine WL.nil ?_
      (refine hK _ _ ?_; clear hK)
      refine WC.block ?_
      have hgln : gs.length = rs.length := by rw [← hrs]; exact List.length_map _
      have hqe : ∀ a, a < v → cntN (QG gs k (T * rs.length)) a = T * r := fun a ha => by
        have := hW.q_ ha T hT3 0 (by omega) (by omega)
        rw [hgln, Nat.add_zero] at this
        rw [this]; rfl
      have hpe : ∀ a b, a < v → b < v → a ≠ b → cnS (PG gs k (T * rs.length)) a b = T * lam := fun a b ha hb hab => by
        have := hW.p_ ha hb hab T hT3 0 (by omega) (by omega)
        rw [hgln, Nat.add_zero] at this
        rw [this]; rfl
      have hlam := hpe 0 1 (by omega) (by omega) (by omega)
      have hPl := PG_len gs (k := k) (T * rs.length)
      have hlb := cnS_le (PG gs k (T * rs.length)) 0 1
      have hN6 : T * rs.length * (k * (2 * k)) ≤ 4096 * 72 := Nat.mul_le_mul (by rw [hgln] at hgrp; exact hgrp) (Nat.mul_le_mul hk6 (Nat.mul_le_mul_left 2 hk6) : k * (2 * k) ≤ 6 * (2 * 6))
      have mTr : IntKind.i64.wrap ((T : Int) * r) = ((T * r : Nat) : Int) := by rw [← Int.natCast_mul]; exact IntWalk.i64_in _ (by omega)
      have mTl : IntKind.i64.wrap ((T : Int) * lam) = ((T * lam : Nat) : Int) := by rw [← Int.natCast_mul]; exact IntWalk.i64_in _ (by omega)
      have hcl := cntL_len v (QG gs k (T * rs.length))
      have hsl := shM_len v (PG gs k (T * rs.length))
      have hca : ∀ a, a < v → (ldv (cntL v (QG gs k (T * rs.length))))[a * 1]? = some (iv (T * r : Nat)) := fun a ha => by rw [ldv_get (by rw [hcl]; exact ha), cntL_at _ ha, hqe a ha]
      have hsa : ∀ a b, a < v → b < v → a ≠ b → (ldv (shM v (PG gs k (T * rs.length))))[(a * v + b) * 1]? = some (iv (T * lam : Nat)) := fun a b ha hb hab => by rw [ldv_get (by rw [hsl]; exact at_lt ha hb), shM_at _ ha hb, hpe a b ha hb hab]
      have hsh : ∀ a b w, a < v → b < v → a ≠ b → IMat w (.slice A rs.length c) rs → Calls Try.prog 20 #[dsgV v A c rs, iv a, iv b] w fun e w' => e = .returned (iv lam) ∧ Below w.heap.size w w' := fun a b w ha hb hab hm => by
        have := shared_e (k := k) w hm ha hb hv60 (by omega) (fun i hi => by rw [hrs]; exact (hW.row (by omega)).1) (by omega) (fun i hi x hx => by rw [hrs]; exact (hW.row (by omega)).2.2 x hx)
        rwa [hrs, hW.l_ ha hb hab] at this
      have hcl2 := ldv_len (cntL v (QG gs k (T * rs.length)))
      have hsl2 := ldv_len (shM v (PG gs k (T * rs.length)))
      rw [hcl] at hcl2
      rw [hsl] at hsl2
      clear hqe hpe hlam hPl hlb hN6
      generalize ldv (cntL v (QG gs k (T * rs.length))) = ct at *
      generalize ldv (shM v (PG gs k (T * rs.length))) = sh at *
      generalize bls (usL v cap (QG gs k (T * rs.length))) = us at *
      have hTr : T * r ≤ 100000 := by omega
      generalize hQ1 : T * r = TR at *
      generalize hQ2 : T * lam = TL at *
      refine WC.loop (421249166674216774170259095977975804689430769811699423617877016640) (fun a : Nat => [(173, iv a)]) (fun _ => [vec (some ⟨b54, 0, none⟩) v v 3 1 ct, vec (some ⟨b58, 0, none⟩) (v * v) (v * v) 3 1 sh, pt b7 LT [iv v, .slice A rs.length c, iv T, iv 2], vec A rs.length c 32 1 (rs.map IRow.v), rowsI rs]) (fun a => a ≤ v) (fun a => v - a) 0 ⟨rfl, trivial⟩ (by repeat (first | exact List.nil_sublist _ | exact List.Sublist.refl _ | apply List.Sublist.cons_cons | apply List.Sublist.cons)) (by omega) ?_
      intro a U4 ha
      by_cases hav : a < v
      · have hcaa := hca a hav
        refine WC.seq fun K hK => ?_
        refine WC.region rfl ?_
        refine wG rfl rfl (g_lt rfl (.mk rfl rfl) (.mk rfl rfl) (decide_eq_true (by omega))) ?_
        refine WL.nil ?_
        (refine hK _ _ ?_; clear hK)
        refine WC.seq fun K hK => ?_
        refine WC.cond_true (.mk rfl rfl) ?_
        refine WC.skip ?_
        (refine hK _ _ ?_; clear hK)
        refine WC.seq fun K hK => ?_
        refine WC.block ?_
        refine WC.seq fun K hK => ?_
        refine WC.region rfl ?_
        refine wG rfl rfl (g_move rfl (.mk (v := .int _ _) rfl rfl)) ?_
        refine wG rfl rfl (g_assign rfl (.mk (v := .int _ _) rfl rfl)) ?_
        refine WL.nil ?_
        (refine hK _ _ ?_; clear hK)
        refine WC.seq fun K hK => ?_
        refine WC.seq fun K hK => ?_
        refine WC.quiet rfl (by kernel_rfl) (by decide +kernel) ?_
        refine WQ.want rfl (WQ1.give rfl (g_move rfl (.mk (v := .slice _ _ _) rfl rfl)) ?_)
        refine WQ.want rfl (WQ1.give rfl (g_move rfl (.mk (v := .int _ _) rfl rfl)) ?_)
        refine WQ.want rfl (WQ1.give rfl (g_indexAddr (sz := 1) rfl (.mk rfl rfl) (.mk rfl rfl) rfl rfl rfl (by omega) (fun _ _ => rfl)) ?_)
        refine WQ.want rfl (WQ1.give rfl (g_load rfl (.mk rfl rfl) rfl (rd_vec (by first | ((repeat (first | exact .head _ | apply List.Mem.tail)); done) | fail) hcaa)) ?_)
        refine WQ.want rfl (WQ1.give rfl (g_fieldAddr (off := 2) rfl (.mk rfl rfl) rfl (fun _ _ => rfl)) ?_)
        refine WQ.want rfl (WQ1.give rfl (g_load rfl (.mk rfl rfl) rfl (rd_pt (.tail _ (.tail _ (.head _))) rfl)) ?_)
        refine WQ.want rfl (WQ1.give rfl (g_move rfl (.mk (v := .int _ _) rfl rfl)) ?_)
        refine WQ.want rfl (WQ1.give rfl (g_mul rfl (.mk rfl rfl) (.mk rfl rfl) mTr) ?_)
        refine WQ.want rfl (WQ1.give rfl (g_ne rfl (.mk rfl rfl) (.mk rfl rfl) (decide_eq_false (by omega))) ?_)
        refine WQ.nil ?_
        (refine hK _ _ ?_; clear hK)
        refine WC.cond_false (.mk rfl rfl) ?_
        refine WC.skip ?_
        (refine hK _ _ ?_; clear hK)
        refine WC.seq fun K hK => ?_
        refine WC.region rfl ?_
        refine wG rfl rfl (g_move rfl (.mk (v := .int _ _) rfl rfl)) ?_
        refine wG rfl rfl (g_move rfl (.mk (v := .int _ _) rfl rfl)) ?_
        refine WL.nil ?_
        (refine hK _ _ ?_; clear hK)
        refine WC.block ?_
        refine WC.loop (210624583239034658780419168432406654900170403049498918688888193088) (fun b : Nat => [(186, iv b)]) (fun _ => [vec (some ⟨b54, 0, none⟩) v v 3 1 ct, vec (some ⟨b58, 0, none⟩) (v * v) (v * v) 3 1 sh, pt b7 LT [iv v, .slice A rs.length c, iv T, iv 2], vec A rs.length c 32 1 (rs.map IRow.v), rowsI rs]) (fun b => b ≤ v) (fun b => v - b) 0 ⟨rfl, trivial⟩ (by repeat (first | exact List.nil_sublist _ | exact List.Sublist.refl _ | apply List.Sublist.cons_cons | apply List.Sublist.cons)) (by omega) ?_
        intro b U5 hb
        by_cases hbv : b < v
        · by_cases hab : a = b
          · subst hab
            refine WC.seq fun K hK => ?_
            refine WC.region rfl ?_
            refine wG rfl rfl (g_lt rfl (.mk rfl rfl) (.mk rfl rfl) (decide_eq_true (by omega))) ?_
            refine WL.nil ?_
            (refine hK _ _ ?_; clear hK)
            refine WC.seq fun K hK => ?_
            refine WC.cond_true (.mk rfl rfl) ?_
            refine WC.skip ?_
            (refine hK _ _ ?_; clear hK)
            refine WC.seq fun K hK => ?_
            refine WC.block ?_
            refine WC.seq fun K hK => ?_
            refine WC.region rfl ?_
            refine wG rfl rfl (g_move rfl (.mk (v := .int _ _) rfl rfl)) ?_
            refine wG rfl rfl (g_assign rfl (.mk (v := .int _ _) rfl rfl)) ?_
            refine WL.nil ?_
            (refine hK _ _ ?_; clear hK)
            refine WC.seq fun K hK => ?_
            refine WC.quiet rfl (by kernel_rfl) (by decide +kernel) ?_
            refine WQ.want rfl (WQ1.give rfl (g_move rfl (.mk (v := .int _ _) rfl rfl)) ?_)
            refine WQ.want rfl (WQ1.give rfl (g_move rfl (.mk (v := .int _ _) rfl rfl)) ?_)
            refine WQ.want rfl (WQ1.give rfl (g_ne rfl (.mk rfl rfl) (.mk rfl rfl) (decide_eq_false (by omega))) ?_)
            refine WQ.want rfl (WQ1.give rfl (g_move rfl (.mk (v := .bool _) rfl rfl)) ?_)
            refine WQ.skipG rfl rfl rfl rfl rfl rfl ?_
            refine WQ.skipG rfl rfl rfl rfl rfl rfl ?_
            refine WQ.skipG rfl rfl rfl rfl rfl rfl ?_
            refine WQ.skipG rfl rfl rfl rfl rfl rfl ?_
            refine WQ.skipG rfl rfl rfl rfl rfl rfl ?_
            refine WQ.skipG rfl rfl rfl rfl rfl rfl ?_
            refine WQ.skipG rfl rfl rfl rfl rfl rfl ?_
            refine WQ.skipG rfl rfl rfl rfl rfl rfl ?_
            refine WQ.skipG rfl rfl rfl rfl rfl rfl ?_
            refine WQ.skipG rfl rfl rfl rfl rfl rfl ?_
            refine WQ.skipG rfl rfl rfl rfl rfl rfl ?_
            refine WQ.skipG rfl rfl rfl rfl rfl rfl ?_
            refine WQ.skipG rfl rfl rfl rfl rfl rfl ?_
            refine WQ.skipG rfl rfl rfl rfl rfl rfl ?_
            refine WQ.skipU rfl rfl rfl rfl rfl ?_
            refine WQ.skipU rfl rfl rfl rfl rfl ?_
            refine WQ.skipU rfl rfl rfl rfl rfl ?_
            refine WQ.skipU rfl rfl rfl rfl rfl ?_
            refine WQ.skipU rfl rfl rfl rfl rfl ?_
            refine WQ.skipU rfl rfl rfl rfl rfl ?_
            refine WQ.skipU rfl rfl rfl rfl rfl ?_
            refine WQ.skipG rfl rfl rfl rfl rfl rfl ?_
            refine WQ.want rfl (WQ1.give rfl (g_pickF rfl (.mk rfl rfl) (.mk (v := .bool _) rfl rfl)) ?_)
            refine WQ.nil ?_
            (refine hK _ _ ?_; clear hK)
            refine WC.cond_false (.mk rfl rfl) ?_
            refine WC.skip ?_
            (refine hK _ _ ?_; clear hK)
            refine WC.region rfl ?_
            refine wG rfl rfl (g_add rfl (.mk rfl rfl) (.mk rfl rfl) (IntWalk.i64_in _ (by omega))) ?_
            refine wG rfl rfl (g_move rfl (.mk (v := .int _ _) rfl rfl)) ?_
            refine WL.nil ?_
            exact ⟨a + 1, (by repeat (first | with_reducible exact Out.refl _ _ | refine Out.set rfl ?_ | refine Out.put rfl ?_ | refine Out.sets rfl ?_ | refine Out.hav rfl ?_ | exact Out.refl _ _)), ⟨rfl, trivial⟩, .refl _, by omega, by omega⟩
          · have hsab := hsa a b hav hbv hab
            have hshb := fun w h => hsh a b w hav hbv hab h
            have i1 : a * v + b < v * v := at_lt hav hbv
            have m1 : IntKind.i64.wrap ((a : Int) * v) = ((a * v : Nat) : Int) := by rw [← Int.natCast_mul]; exact IntWalk.i64_in _ (by omega)
            have a1 : IntKind.i64.wrap (((a * v : Nat) : Int) + b) = ((a * v + b : Nat) : Int) := by rw [← Int.natCast_add]; exact IntWalk.i64_in _ (by omega)
            generalize a * v + b = I1 at *
            generalize a * v = J1 at *
            refine WC.seq fun K hK => ?_
            refine WC.region rfl ?_
            refine wG rfl rfl (g_lt rfl (.mk rfl rfl) (.mk rfl rfl) (decide_eq_true (by omega))) ?_
            refine WL.nil ?_
            (refine hK _ _ ?_; clear hK)
            refine WC.seq fun K hK => ?_
            refine WC.cond_true (.mk rfl rfl) ?_
            refine WC.skip ?_
            (refine hK _ _ ?_; clear hK)
            refine WC.seq fun K hK => ?_
            refine WC.block ?_
            refine WC.seq fun K hK => ?_
            refine WC.region rfl ?_
            refine wG rfl rfl (g_move rfl (.mk (v := .int _ _) rfl rfl)) ?_
            refine wG rfl rfl (g_assign rfl (.mk (v := .int _ _) rfl rfl)) ?_
            refine WL.nil ?_
            (refine hK _ _ ?_; clear hK)
            refine WC.seq fun K hK => ?_
            refine WC.quiet rfl (by kernel_rfl) (by decide +kernel) ?_
            refine WQ.want rfl (WQ1.give rfl (g_move rfl (.mk (v := .int _ _) rfl rfl)) ?_)
            refine WQ.want rfl (WQ1.give rfl (g_move rfl (.mk (v := .int _ _) rfl rfl)) ?_)
            refine WQ.want rfl (WQ1.give rfl (g_ne rfl (.mk rfl rfl) (.mk rfl rfl) (decide_eq_true (by omega))) ?_)
            refine WQ.want rfl (WQ1.give rfl (g_move rfl (.mk (v := .bool _) rfl rfl)) ?_)
            refine WQ.wantG rfl rfl rfl rfl (WQ1.give rfl (g_move rfl (.mk (v := .slice _ _ _) rfl rfl)) ?_)
            refine WQ.wantG rfl rfl rfl rfl (WQ1.give rfl (g_move rfl (.mk (v := .int _ _) rfl rfl)) ?_)
            refine WQ.wantG rfl rfl rfl rfl (WQ1.give rfl (g_move rfl (.mk (v := .int _ _) rfl rfl)) ?_)
            refine WQ.wantG rfl rfl rfl rfl (WQ1.give rfl (g_mul rfl (.mk rfl rfl) (.mk rfl rfl) m1) ?_)
            refine WQ.wantG rfl rfl rfl rfl (WQ1.give rfl (g_move rfl (.mk (v := .int _ _) rfl rfl)) ?_)
            refine WQ.wantG rfl rfl rfl rfl (WQ1.give rfl (g_add rfl (.mk rfl rfl) (.mk rfl rfl) a1) ?_)
            refine WQ.wantG rfl rfl rfl rfl (WQ1.give rfl (g_indexAddr (sz := 1) rfl (.mk rfl rfl) (.mk rfl rfl) rfl rfl rfl (by omega) (fun _ _ => rfl)) ?_)
            refine WQ.wantG rfl rfl rfl rfl (WQ1.give rfl (g_load rfl (.mk rfl rfl) rfl (rd_vec (by first | ((repeat (first | exact .head _ | apply List.Mem.tail)); done) | fail) hsab)) ?_)
            refine WQ.wantG rfl rfl rfl rfl (WQ1.give rfl (g_fieldAddr (off := 2) rfl (.mk rfl rfl) rfl (fun _ _ => rfl)) ?_)
            refine WQ.wantG rfl rfl rfl rfl (WQ1.give rfl (g_load rfl (.mk rfl rfl) rfl (rd_pt (.tail _ (.tail _ (.head _))) rfl)) ?_)
            refine WQ.wantG rfl rfl rfl rfl (WQ1.give rfl (g_move rfl (.mk (v := .int _ _) rfl rfl)) ?_)
            refine WQ.wantG rfl rfl rfl rfl (WQ1.give rfl (g_mul rfl (.mk rfl rfl) (.mk rfl rfl) mTl) ?_)
            refine WQ.wantG rfl rfl rfl rfl (WQ1.give rfl (g_ne rfl (.mk rfl rfl) (.mk rfl rfl) (decide_eq_false (by omega))) ?_)
            refine WQ.wantG rfl rfl rfl rfl (WQ1.give rfl (g_move rfl (.mk (v := .bool _) rfl rfl)) ?_)
            refine WQ.wantG rfl rfl rfl rfl (WQ1.give rfl (g_fieldAddr (off := 0) rfl (.mk rfl rfl) rfl (fun _ _ => rfl)) ?_)
            refine WQ.wantG rfl rfl rfl rfl (WQ1.give rfl (g_loadA rfl (.mk rfl rfl) rfl rfl (rdr_pt (cs := [iv v, .slice A rs.length c]) (by first | ((repeat (first | exact .head _ | apply List.Mem.tail)); done) | fail) (g2 A c rs.length))) ?_)
            refine WQ.wantG rfl rfl rfl rfl (WQ1.give rfl (g_move rfl (.mk (v := .int _ _) rfl rfl)) ?_)
            refine WQ.wantG rfl rfl rfl rfl (WQ1.give rfl (g_move rfl (.mk (v := .int _ _) rfl rfl)) ?_)
            refine WQ.wantG rfl rfl rfl rfl (WQ1.callP rfl rfl rfl (.cons (.mk (v := .agg _) rfl rfl) (.cons (.mk (v := .int _ _) rfl rfl) (.cons (.mk (v := .int _ _) rfl rfl) .nil))) (fun w hw => hshb w (IMat.of_rows hw (by first | ((repeat (first | exact .head _ | apply List.Mem.tail)); done) | fail) (by first | ((repeat (first | exact .head _ | apply List.Mem.tail)); done) | fail) rfl)) ?_)
            refine WQ.wantG rfl rfl rfl rfl (WQ1.give rfl (g_move rfl (.mk (v := .int _ _) rfl rfl)) ?_)
            refine WQ.wantG rfl rfl rfl rfl (WQ1.give rfl (g_ne rfl (.mk rfl rfl) (.mk rfl rfl) (decide_eq_false (by omega))) ?_)
            refine WQ.wantG rfl rfl rfl rfl (WQ1.give rfl (g_pickF rfl (.mk rfl rfl) (.mk (v := .bool _) rfl rfl)) ?_)
            refine WQ.want rfl (WQ1.give rfl (g_pickT rfl (.mk rfl rfl) (.mk (v := .bool _) rfl rfl)) ?_)
            refine WQ.nil ?_
            (refine hK _ _ ?_; clear hK)
            refine WC.cond_false (.mk rfl rfl) ?_
            refine WC.skip ?_
            (refine hK _ _ ?_; clear hK)
            refine WC.region rfl ?_
            refine wG rfl rfl (g_add rfl (.mk rfl rfl) (.mk rfl rfl) (IntWalk.i64_in _ (by omega))) ?_
            refine wG rfl rfl (g_move rfl (.mk (v := .int _ _) rfl rfl)) ?_
            refine WL.nil ?_
            exact ⟨b + 1, (by repeat (first | with_reducible exact Out.refl _ _ | refine Out.set rfl ?_ | refine Out.put rfl ?_ | refine Out.sets rfl ?_ | refine Out.hav rfl ?_ | exact Out.refl _ _)), ⟨rfl, trivial⟩, .refl _, by omega, by omega⟩
        · obtain rfl : b = v := by omega
          refine WC.seq fun K hK => ?_
          refine WC.region rfl ?_
          refine wG rfl rfl (g_lt rfl (.mk rfl rfl) (.mk rfl rfl) (decide_eq_false (by omega))) ?_
          refine WL.nil ?_
          (refine hK _ _ ?_; clear hK)
          refine WC.seq fun K hK => ?_
          refine WC.cond_false (.mk rfl rfl) ?_
          refine WC.exit ?_
          (clear hK; refine hK _ _ ?_; clear hK)
          refine WC.region rfl ?_
          refine wG rfl rfl (g_add rfl (.mk rfl rfl) (.mk rfl rfl) (IntWalk.i64_in _ (by omega))) ?_
          refine wG rfl rfl (g_move rfl (.mk (v := .int _ _) rfl rfl)) ?_
          refine WL.nil ?_
          exact ⟨a + 1, (by repeat (first | with_reducible exact Out.refl _ _ | refine Out.set rfl ?_ | refine Out.put rfl ?_ | refine Out.sets rfl ?_ | refine Out.hav rfl ?_ | exact Out.refl _ _)), ⟨rfl, trivial⟩, .refl _, by omega, by omega⟩
      · obtain rfl : a = v := by omega
        refine WC.seq fun K hK => ?_
        refine WC.region rfl ?_
        refine wG rfl rfl (g_lt rfl (.mk rfl rfl) (.mk rfl rfl) (decide_eq_false (by omega))) ?_
        refine WL.nil ?_
        (refine hK _ _ ?_; clear hK)
        refine WC.seq fun K hK => ?_
        refine WC.cond_false (.mk rfl rfl) ?_
        refine WC.exit ?_
        (clear hK; refine hK _ _ ?_; clear hK)
        refine WC.seq fun K hK => ?_
        refine WC.region rfl ?_
        refine wG rfl rfl (g_assign rfl (.mk (v := .bool _) rfl rfl)) ?_
        refine WL.nil ?_
        (refine hK _ _ ?_; clear hK)
        refine WC.ret ?_
        exact fun w' hw' => ⟨rfl, hw'.1⟩
end Go.Proofs.Ytdcijljfgcjelaa
namespace Go.Proofs.Ytdcijljfgcjelaa
set_option maxRecDepth 20000
open Go.RowKit
attribute [local irreducible] Calls
def nodB (v : Nat) (gs : List (List Nat)) : Bool := gs.all fun g => (List.range v).all fun x => Nat.ble (cntN g x) 1
def wbB (v k r lam : Nat) (gs : List (List Nat)) : Bool := dsgB v k gs && balB v gs r lam && nodB v gs && Nat.ble 4 k && Nat.ble k 6 && Nat.ble (3 * gs.length) 4096 && Nat.ble (3 * gs.length * (k - 3)) 65536 && Nat.ble (3 * r + 2) 65536
theorem wbB_spec {v k r lam : Nat} {gs : List (List Nat)} (h : wbB v k r lam gs = true) : WBal v k r lam gs := by
  unfold wbB at h
  simp only [Bool.and_eq_true] at h
  obtain ⟨⟨⟨⟨⟨⟨⟨h1, h2⟩, h3⟩, h4⟩, h5⟩, h6⟩, h7⟩, h8⟩ := h
  have a4 := Nat.le_of_ble_eq_true h4
  have a5 := Nat.le_of_ble_eq_true h5
  have a6 := Nat.le_of_ble_eq_true h6
  have a7 := Nat.le_of_ble_eq_true h7
  have a8 := Nat.le_of_ble_eq_true h8
  refine ⟨fun t t1 t3 => ⟨dsgB_spec h1, balB_spec h2, a4, by omega, t1, by omega, by omega, ?_, ?_, ?_⟩, a5, fun g hg x hx => ?_⟩
  · exact Nat.le_trans (Nat.mul_le_mul_right _ t3) a6
  · exact Nat.le_trans (Nat.mul_le_mul_right _ (Nat.mul_le_mul_right _ t3)) a7
  · have := Nat.mul_le_mul_right r t3
    omega
  · unfold nodB at h3
    simp only [List.all_eq_true, List.mem_range] at h3
    exact Nat.le_of_ble_eq_true (h3 g hg x hx)
theorem wb54 : WBal 5 4 4 3 (cmb 5 4 [] 0) := wbB_spec (by decide +kernel)
theorem wb55 : WBal 5 5 1 1 (cmb 5 5 [] 0) := wbB_spec (by decide +kernel)
theorem wb64 : WBal 6 4 10 6 (cmb 6 4 [] 0) := wbB_spec (by decide +kernel)
theorem wb65 : WBal 6 5 5 4 (cmb 6 5 [] 0) := wbB_spec (by decide +kernel)
theorem wb66 : WBal 6 6 1 1 (cmb 6 6 [] 0) := wbB_spec (by decide +kernel)
theorem wb74 : WBal 7 4 20 10 (cmb 7 4 [] 0) := wbB_spec (by decide +kernel)
theorem wb75 : WBal 7 5 15 10 (cmb 7 5 [] 0) := wbB_spec (by decide +kernel)
theorem wb76 : WBal 7 6 6 5 (cmb 7 6 [] 0) := wbB_spec (by decide +kernel)
theorem wb84 : WBal 8 4 35 15 (cmb 8 4 [] 0) := wbB_spec (by decide +kernel)
theorem wb85 : WBal 8 5 35 20 (cmb 8 5 [] 0) := wbB_spec (by decide +kernel)
theorem wb86 : WBal 8 6 21 15 (cmb 8 6 [] 0) := wbB_spec (by decide +kernel)
theorem wb94 : WBal 9 4 56 21 (cmb 9 4 [] 0) := wbB_spec (by decide +kernel)
theorem wb95 : WBal 9 5 70 35 (cmb 9 5 [] 0) := wbB_spec (by decide +kernel)
theorem wb96 : WBal 9 6 56 35 (cmb 9 6 [] 0) := wbB_spec (by decide +kernel)
theorem wb134 : WBal 13 4 4 1 plG := wbB_spec (by decide +kernel)
theorem rc (v k q : Nat) (h : (cmpB v k && Nat.ble 5 v && Nat.ble v 13 && Nat.ble k 6 && Nat.ble q 4096 && ends v k q (List.range k)) = true) : RCmp v k q := rcmp_spec h
theorem rc54 : RCmp 5 4 4 := rc _ _ _ (by decide +kernel)
theorem rc55 : RCmp 5 5 0 := rc _ _ _ (by decide +kernel)
theorem rc64 : RCmp 6 4 14 := rc _ _ _ (by decide +kernel)
theorem rc65 : RCmp 6 5 5 := rc _ _ _ (by decide +kernel)
theorem rc66 : RCmp 6 6 0 := rc _ _ _ (by decide +kernel)
theorem rc74 : RCmp 7 4 34 := rc _ _ _ (by decide +kernel)
theorem rc75 : RCmp 7 5 20 := rc _ _ _ (by decide +kernel)
theorem rc76 : RCmp 7 6 6 := rc _ _ _ (by decide +kernel)
theorem rc84 : RCmp 8 4 69 := rc _ _ _ (by decide +kernel)
theorem rc85 : RCmp 8 5 55 := rc _ _ _ (by decide +kernel)
theorem rc86 : RCmp 8 6 27 := rc _ _ _ (by decide +kernel)
theorem rc94 : RCmp 9 4 125 := rc _ _ _ (by decide +kernel)
theorem rc95 : RCmp 9 5 125 := rc _ _ _ (by decide +kernel)
theorem rc96 : RCmp 9 6 83 := rc _ _ _ (by decide +kernel)
theorem rc104 : RCmp 10 4 209 := rc _ _ _ (by decide +kernel)
theorem rc105 : RCmp 10 5 251 := rc _ _ _ (by decide +kernel)
theorem rc106 : RCmp 10 6 209 := rc _ _ _ (by decide +kernel)
theorem rc114 : RCmp 11 4 329 := rc _ _ _ (by decide +kernel)
theorem rc115 : RCmp 11 5 461 := rc _ _ _ (by decide +kernel)
theorem rc116 : RCmp 11 6 461 := rc _ _ _ (by decide +kernel)
theorem rc124 : RCmp 12 4 494 := rc _ _ _ (by decide +kernel)
theorem rc125 : RCmp 12 5 791 := rc _ _ _ (by decide +kernel)
theorem rc126 : RCmp 12 6 923 := rc _ _ _ (by decide +kernel)
theorem rc135 : RCmp 13 5 1286 := rc _ _ _ (by decide +kernel)
theorem rc136 : RCmp 13 6 1715 := rc _ _ _ (by decide +kernel)
end Go.Proofs.Ytdcijljfgcjelaa
namespace Go.Proofs.Ytdcijljfgcjelaa
set_option maxRecDepth 20000
open Go.RowKit
attribute [local irreducible] Calls
section
variable {d wd t : Nat} {v k : Nat} (w : World) (hd : d < 256) (hwd : wd < 256) (ht : t < 256) (hv : 5 + d % 9 = v) (hk : 4 + wd % 3 = k)
theorem bal_n {d wd t : Nat} (w : World) (hch : ∀ w, Calls Try.prog 13 #[.int .u8 d, .int .u8 wd, .int .u8 t, .int .u8 2] w fun e w' => e = .returned (.tuple #[.agg #[iv 0, .slice none 0 0, iv 0, iv 0], .bool false]) ∧ Below w.heap.size w w') :
    Calls Try.prog 4 #[.int .u8 d, .int .u8 wd, .int .u8 t] w fun en w' => en = .returned (.bool true) ∧ Below w.heap.size w w' := by
  refine calls_wc (args := [.int .u8 d, .int .u8 wd, .int .u8 t]) [6] [] Try.func4 rfl Try.ntmps4 rfl rfl rfl rfl (H.refl _) ?_
  refine WC.seq fun K hK => ?_
  refine WC.region rfl ?_
  refine wG rfl rfl (g_assign rfl (.mk (v := .bool _) rfl rfl)) ?_
  refine WL.nil ?_
  (refine hK _ _ ?_; clear hK)
  refine WC.seq fun K hK => ?_
  refine WC.seq fun K hK => ?_
  refine WC.region rfl ?_
  refine WL.want rfl (WL1.callP rfl rfl rfl .nil (fun w hw => awake_top w) ?_)
  refine wG rfl rfl (g_notT rfl (.mk rfl rfl)) ?_
  refine WL.nil ?_
  (refine hK _ _ ?_; clear hK)
  refine WC.cond_false (.mk rfl rfl) ?_
  refine WC.skip ?_
  (refine hK _ _ ?_; clear hK)
  refine WC.seq fun K hK => ?_
  refine WC.region rfl ?_
  refine wG rfl rfl (g_move rfl (.mk (v := .int _ _) rfl rfl)) ?_
  refine wG rfl rfl (g_move rfl (.mk (v := .int _ _) rfl rfl)) ?_
  refine wG rfl rfl (g_move rfl (.mk (v := .int _ _) rfl rfl)) ?_
  refine WL.want rfl (WL1.callP rfl rfl rfl (.cons (.mk (v := .int _ _) rfl rfl) (.cons (.mk (v := .int _ _) rfl rfl) (.cons (.mk (v := .int _ _) rfl rfl) (.cons (.mk (v := .int _ _) rfl rfl) .nil)))) (fun w hw => hch w) ?_)
  refine wG rfl rfl (g_move rfl (.mk (v := .tuple _) rfl rfl)) ?_
  refine wG rfl rfl (g_extract rfl (.mk rfl rfl) rfl) ?_
  refine wG rfl rfl (g_extract rfl (.mk rfl rfl) rfl) ?_
  refine WL.want rfl (WL1.alloc rfl rfl rfl rfl (fun b7 => ?_))
  refine WL.want rfl (WL1.storeAll rfl rfl (.mk rfl rfl) (.mk rfl rfl) rfl (all1 rfl) (by first | rfl | (simp [Blk.len]; done)) (.head) ?_)
  refine wG rfl rfl (g_assign rfl (.mk (v := .bool _) rfl rfl)) ?_
  refine WL.nil ?_
  (refine hK _ _ ?_; clear hK)
  refine WC.seq fun K hK => ?_
  refine WC.seq fun K hK => ?_
  refine WC.region rfl ?_
  refine wG rfl rfl (g_move rfl (.mk (v := .bool _) rfl rfl)) ?_
  refine wG rfl rfl (g_notF rfl (.mk rfl rfl)) ?_
  refine WL.nil ?_
  (refine hK _ _ ?_; clear hK)
  refine WC.cond_true (.mk rfl rfl) ?_
  refine WC.seq fun K hK => ?_
  refine WC.region rfl ?_
  refine wG rfl rfl (g_assign rfl (.mk (v := .bool _) rfl rfl)) ?_
  refine WL.nil ?_
  (refine hK _ _ ?_; clear hK)
  refine WC.ret ?_
  exact fun w' hw' => ⟨rfl, hw'.1⟩
include hd hwd ht hv hk
theorem bal_y {q r lam : Nat} (hW : WBal v k r lam (cmb v k [] 0)) (hR : RCmp v k q) (hq : q + 1 ≤ 130) (h13 : ¬ (v = 13 ∧ k = 4)) (n1 : k * k - k + 1 ≠ v) (n2 : k * k ≠ v) :
    Calls Try.prog 4 #[.int .u8 d, .int .u8 wd, .int .u8 t] w fun en w' => en = .returned (.bool true) ∧ Below w.heap.size w w' :=
  bal_core (T := 1 + t % 3) w hW (by omega) (by omega) fun w => chosen_y d wd t w v k hd hwd ht hv hk (q + 1) hq (cmb v k [] 0) (fun w => rchoose_n v k q w hR h13) (fun w => choose_n v k w hR.c n1 n2)
theorem bal_no {q : Nat} (hR : RCmp v k q) (hq : 130 < q + 1) (h13 : ¬ (v = 13 ∧ k = 4)) :
    Calls Try.prog 4 #[.int .u8 d, .int .u8 wd, .int .u8 t] w fun en w' => en = .returned (.bool true) ∧ Below w.heap.size w w' :=
  bal_n w fun w => chosen_n d wd t w v k hd hwd ht hv hk (q + 1) hq (by have := hR.q4; omega) (fun w => rchoose_n v k q w hR h13)
end
theorem bal_all (d wd t : Nat) (w : World) (hd : d < 256) (hwd : wd < 256) (ht : t < 256) :
    Calls Try.prog 4 #[.int .u8 d, .int .u8 wd, .int .u8 t] w fun en w' => en = .returned (.bool true) ∧ Below w.heap.size w w' := by
  have h9 : d % 9 = 0 ∨ d % 9 = 1 ∨ d % 9 = 2 ∨ d % 9 = 3 ∨ d % 9 = 4 ∨ d % 9 = 5 ∨ d % 9 = 6 ∨ d % 9 = 7 ∨ d % 9 = 8 := by omega
  have h3 : wd % 3 = 0 ∨ wd % 3 = 1 ∨ wd % 3 = 2 := by omega
  rcases h9 with e | e | e | e | e | e | e | e | e <;> rcases h3 with f | f | f
  · exact bal_y (v := 5) (k := 4) w hd hwd ht (by omega) (by omega) wb54 rc54 (by omega) (by omega) (by decide) (by decide)
  · exact bal_y (v := 5) (k := 5) w hd hwd ht (by omega) (by omega) wb55 rc55 (by omega) (by omega) (by decide) (by decide)
  · exact bal_n w fun w => chosen_e d wd t w 5 6 hd hwd ht (by omega) (by omega) fun w => rchoose_arg 5 6 w (by omega) (by omega) (by omega)
  · exact bal_y (v := 6) (k := 4) w hd hwd ht (by omega) (by omega) wb64 rc64 (by omega) (by omega) (by decide) (by decide)
  · exact bal_y (v := 6) (k := 5) w hd hwd ht (by omega) (by omega) wb65 rc65 (by omega) (by omega) (by decide) (by decide)
  · exact bal_y (v := 6) (k := 6) w hd hwd ht (by omega) (by omega) wb66 rc66 (by omega) (by omega) (by decide) (by decide)
  · exact bal_y (v := 7) (k := 4) w hd hwd ht (by omega) (by omega) wb74 rc74 (by omega) (by omega) (by decide) (by decide)
  · exact bal_y (v := 7) (k := 5) w hd hwd ht (by omega) (by omega) wb75 rc75 (by omega) (by omega) (by decide) (by decide)
  · exact bal_y (v := 7) (k := 6) w hd hwd ht (by omega) (by omega) wb76 rc76 (by omega) (by omega) (by decide) (by decide)
  · exact bal_y (v := 8) (k := 4) w hd hwd ht (by omega) (by omega) wb84 rc84 (by omega) (by omega) (by decide) (by decide)
  · exact bal_y (v := 8) (k := 5) w hd hwd ht (by omega) (by omega) wb85 rc85 (by omega) (by omega) (by decide) (by decide)
  · exact bal_y (v := 8) (k := 6) w hd hwd ht (by omega) (by omega) wb86 rc86 (by omega) (by omega) (by decide) (by decide)
  · exact bal_y (v := 9) (k := 4) w hd hwd ht (by omega) (by omega) wb94 rc94 (by omega) (by omega) (by decide) (by decide)
  · exact bal_y (v := 9) (k := 5) w hd hwd ht (by omega) (by omega) wb95 rc95 (by omega) (by omega) (by decide) (by decide)
  · exact bal_y (v := 9) (k := 6) w hd hwd ht (by omega) (by omega) wb96 rc96 (by omega) (by omega) (by decide) (by decide)
  · exact bal_no (v := 10) (k := 4) w hd hwd ht (by omega) (by omega) rc104 (by omega) (by omega)
  · exact bal_no (v := 10) (k := 5) w hd hwd ht (by omega) (by omega) rc105 (by omega) (by omega)
  · exact bal_no (v := 10) (k := 6) w hd hwd ht (by omega) (by omega) rc106 (by omega) (by omega)
  · exact bal_no (v := 11) (k := 4) w hd hwd ht (by omega) (by omega) rc114 (by omega) (by omega)
  · exact bal_no (v := 11) (k := 5) w hd hwd ht (by omega) (by omega) rc115 (by omega) (by omega)
  · exact bal_no (v := 11) (k := 6) w hd hwd ht (by omega) (by omega) rc116 (by omega) (by omega)
  · exact bal_no (v := 12) (k := 4) w hd hwd ht (by omega) (by omega) rc124 (by omega) (by omega)
  · exact bal_no (v := 12) (k := 5) w hd hwd ht (by omega) (by omega) rc125 (by omega) (by omega)
  · exact bal_no (v := 12) (k := 6) w hd hwd ht (by omega) (by omega) rc126 (by omega) (by omega)
  · exact bal_core (T := 1 + t % 3) w wb134 (by omega) (by omega) fun w => chosen_y d wd t w 13 4 hd hwd ht (by omega) (by omega) 13 (by omega) plG rchoose_13 choose_13
  · exact bal_no (v := 13) (k := 5) w hd hwd ht (by omega) (by omega) rc135 (by omega) (by omega)
  · exact bal_no (v := 13) (k := 6) w hd hwd ht (by omega) (by omega) rc136 (by omega) (by omega)
end Go.Proofs.Ytdcijljfgcjelaa
