/- Texts joined: Pl4, Pl5, Rb19, Pl7, Pl8, Rb1, Rb2, Rb3, Rb4, Rb5, Rb6, Rb7, Rb8, Rb9. The parts say what each of them proves. No condition. -/
import Derived.Test.YtdcijljfgcjelaaGreatJh4
import Derived.Maps.Views
import Derived.DeepKeys4
namespace Go.Proofs.YtdcijljfgcjelaaGreat
set_option maxRecDepth 20000
open Go.RowKit
attribute [local irreducible] Calls
theorem coP : coL 18 = coL 27 := by decide +kernel
def plF (P : List (List Nat)) (i j : Nat) : List Nat := (List.range j).filter fun q => Nat.beq (dS (nth P i) (nth P q) 3) 0
def plG : List (List Nat) := (List.range 13).map fun i => plF (coL 18) i 13
theorem plF_len (P : List (List Nat)) (i j : Nat) : (plF P i j).length ≤ j := by
 have := List.length_filter_le (fun q => Nat.beq (dS (nth P i) (nth P q) 3) 0) (List.range j)
 rw [List.length_range] at this
 exact this
theorem plF_in {P : List (List Nat)} {i j : Nat} (h : dS (nth P i) (nth P j) 3 = 0) : plF P i (j + 1) = plF P i j ++ [j] := by
 unfold plF
 rw [List.range_succ, List.filter_append, List.filter_cons, if_pos (by rw [h]; rfl)]; rfl
theorem plF_out {P : List (List Nat)} {i j : Nat} (h : dS (nth P i) (nth P j) 3 ≠ 0) : plF P i (j + 1) = plF P i j := by
 unfold plF
 rw [List.range_succ, List.filter_append, List.filter_cons, if_neg (by intro h'; exact h (Nat.eq_of_beq_eq_true h'))]; simp
theorem cc_sub {L : List (List Nat)} (h : ∀ r ∈ L, r.length = 3) {i : Nat} (hi : i < L.length) : ∀ j u, (ldv (nth L i))[j]? = some u → (cc L)[i * 3 + j]? = some u := fun j u hu => by
 have hl : (ldv (nth L i)).length = 3 := by rw [ldv_len, nth_eq hi]; exact h _ (List.getElem_mem hi)
 have hj : j < 3 := by
   have := (List.getElem?_eq_some_iff.1 hu).1
   omega
 rw [cc_get h hi hj]
 have := ldv_get (ld := nth L i) (k := j) (by rw [ldv_len] at hl; omega)
 rw [Nat.mul_one] at this
 rw [← hu, this]
theorem threeP {l : List Nat} (h : l.length = 3) : ∃ x y z, l = [x, y, z] := by
 match l, h with
 | [x, y, z], _ => exact ⟨x, y, z, rfl⟩
set_option maxHeartbeats 4000000 in
theorem proj3_n (w : World) : Calls Tryz.prog 80 #[iv 3] w fun e w' => ∃ u M, e = .returned u ∧ H w M w' ∧ ∃ A c rs, rs.map IRow.l = plG ∧ u = .tuple #[.agg #[iv 13, .slice A rs.length c], iv 0] ∧ M = dsgA A c rs := by
 have hl13 : (coL 18).length = 13 := by rw [coP]; exact co_len
 have hrow : ∀ r ∈ coL 18, r.length = 3 := by rw [coP]; exact co_rows
 have hle : ∀ i, i < 13 → ∀ q, q < 3 → nth (nth (coL 18) i) q < 3 := fun i hi q hq => by have := co_le hi hq; rw [← coP] at this; omega
 have hr3 : ∀ i, i < 13 → (nth (coL 18) i).length = 3 := fun i hi => hrow _ (by rw [nth_eq (by omega)]; exact List.getElem_mem _)
 have hrd := fun i (hi : i < 13) => cc_sub hrow (by rw [hl13]; exact hi : i < (coL 18).length)
 have hG : plG = (List.range 13).map fun i => plF (coL 18) i 13 := rfl
 rw [hG]
 clear hG
 have hfi := @plF_in (coL 18)
 have hfo := @plF_out (coL 18)
 have hop : ∀ w, Calls Tryz.prog 125 #[iv 3] w fun e w' => ∃ u M, e = .returned u ∧ H w M w' ∧ ∃ bs bf bm A c S cS Pp cP mD sm pr, ils sm = smT 3 ∧ ils pr = prT 3 ∧ u = .tuple #[bpv bs, iv 0] ∧ M = pt bs SPT [bpv bf, .slice A 13 c, .map (some bm)] :: vec A 13 c COT 3 (cc (coL 18)) :: mp Tryz.prog COT bm 13 mD :: pt bf FT [iv 3, iv 3, .slice S 3 cS, .slice Pp 3 cP] :: vec S 3 cS 29 1 (sm.map IRow.v) :: rowsI sm :: vec Pp 3 cP 29 1 (pr.map IRow.v) :: rowsI pr :: [] := fun w => by
   have := open3_n w
   unfold plL at this
   rw [hl13] at this
   exact this.mono fun e w' ⟨u, M, h1, h2, bs, bf, bm, ⟨A, c⟩, ⟨S, cS⟩, ⟨Pp, cP⟩, mD, sm, pr, h3, h4, h5, h6⟩ => ⟨u, M, h1, h2, bs, bf, bm, A, c, S, cS, Pp, cP, mD, sm, pr, h3, h4, h5, h6⟩
 generalize coL 18 = P at *
 refine calls_wcG (args := [iv 3]) [.cell 2 61, .tmp 3] [] Tryz.func80 rfl Tryz.ntmps80 rfl rfl (H.refl _) ?_
 refine uS rfl fun K hK => ?_
 refine WL.want rfl (WL1.alloc rfl rfl rfl rfl (fun b2 => ?_))
 refine jm rfl rfl ?_
 refine wN hK ?_; clear hK
 refine uS rfl fun K hK => ?_
 refine jm rfl rfl ?_
 (refine WL.want rfl (WL1.callN rfl rfl rfl (.cons (.mk (v := .int _ _) rfl rfl) .nil) (fun w hw => hop w) ?_); rintro _ _ ⟨bs, bf, bm, A, c, S, cS, Pp, cP, mD, sm, pr, e1, e2, rfl, rfl⟩)
 iterate 3 refine jm rfl rfl ?_
 refine jp rfl rfl rfl ?_
 refine jm rfl rfl ?_
 refine wN hK ?_; clear hK
 refine WC.seq fun K hK => ?_
 refine uS rfl fun K hK => ?_
 refine jm rfl rfl ?_
 refine jf rfl rfl (by omega) ?_
 refine wN hK ?_; clear hK
 refine uF rfl rfl ?_
 refine WC.skip ?_
 (refine hK _ _ ?_; clear hK)
 refine uS rfl fun K hK => ?_
 refine jp rfl rfl rfl ?_
 refine wG rfl rfl (g_nilCheck rfl (.mk rfl rfl) (fun _ _ => rfl)) ?_
 refine ja 1 rfl rfl rfl rfl ?_
 refine jl rfl rfl rfl (rd_pt (.head _) rfl) ?_
 refine jn rfl rfl rfl ?_
 refine wG rfl rfl (g_build (cs := [_, _]) rfl rfl rfl rfl (.cons (.mk (v := .int _ _) rfl rfl) .nil) rfl rfl rfl) ?_
 refine WL.want rfl (WL1.alloc rfl rfl rfl rfl (fun b6 => ?_))
 refine WL.want rfl (WL1.storeAll rfl rfl (.mk rfl rfl) (.mk rfl rfl) rfl (all1 rfl) (by first | rfl | (simp [Blk.len]; done)) (.head) ?_)
 refine wN hK ?_; clear hK
 refine WC.seq fun K hK => ?_
 refine uS rfl fun K hK => ?_
 refine jp rfl rfl rfl ?_
 refine wG rfl rfl (g_nilCheck rfl (.mk rfl rfl) (fun _ _ => rfl)) ?_
 refine ja 1 rfl rfl rfl rfl ?_
 refine jl rfl rfl rfl (rd_pt (.tail _ (.head _)) rfl) ?_
 refine jn rfl rfl rfl ?_
 refine jm rfl rfl ?_
 refine wN hK ?_; clear hK
 refine WC.block ?_
 refine WC.loopI3 (9223372032559812352) (fun (i : Nat) (G : Option Addr × Nat) (rs : List IRow) => [(32, iv i)]) (fun i G rs => pt b6 DT [iv 13, .slice G.1 i G.2] :: vec G.1 i G.2 29 1 (rs.map IRow.v) :: rowsI rs :: pt b2 DT [iv 0, .slice none 0 0] :: pt bs SPT [bpv bf, .slice A 13 c, .map (some bm)] :: vec A 13 c COT 3 (cc P) :: pt bf FT [iv 3, iv 3, .slice S 3 cS, .slice Pp 3 cP] :: vec S 3 cS 29 1 (sm.map IRow.v) :: rowsI sm :: vec Pp 3 cP 29 1 (pr.map IRow.v) :: rowsI pr :: []) (fun i _ rs => i ≤ 13 ∧ rs.length = i ∧ rs.map IRow.l = (List.range i).map fun i => plF P i 13) (fun i _ _ => 13 - i) 0 (none, 0) [] ⟨rfl, trivial⟩ ?_ ⟨by omega, rfl, rfl⟩ ?_
 · exact Imp.trans (Imp.trans (imp_nilv 29 1) rowsI_none) (Imp.pick (by repeat constructor) (Imp.pick (by repeat constructor) (Imp.pick (by repeat constructor) (Imp.pick (by repeat constructor) (Imp.pick (by repeat constructor) (Imp.pick (by repeat constructor) (Imp.pick (by repeat constructor) (Imp.pick (by repeat constructor) (Imp.pick (by repeat constructor) (Imp.pick (by repeat constructor) (Imp.pick (by repeat constructor) (Imp.nil _))))))))))))
 rintro i ⟨G, cG⟩ rs U ⟨hi, hrl, hrs⟩
 dsimp only
 by_cases hlt : i < 13
 · have hri := hrd i hlt
   have hdt := fun j (hj : j < 13) {bs bf} (w : World) (h1 : w.cell? ⟨bs, 0, none⟩ = some (bpv bf)) (h2 : FldAt w bf) => dot_e (nth P i) (nth P j) (hr3 i hlt) (hr3 j hj) (hle i hlt) (hle j hj) h1 h2
   have hfii := @hfi i
   have hfoi := @hfo i
   have hp0 : plF P i 0 = [] := rfl
   obtain ⟨x0, y0, z0, hx⟩ := threeP (hr3 i hlt)
   rw [hx] at hri hdt hfii hfoi
   refine uS rfl fun K hK => ?_
   refine jt rfl rfl (by omega) ?_
   refine wN hK ?_; clear hK
   refine WC.seq fun K hK => ?_
   refine uT rfl rfl ?_
   refine WC.skip ?_
   (refine hK _ _ ?_; clear hK)
   refine WC.seq fun K hK => ?_
   refine WC.block ?_
   refine uS rfl fun K hK => ?_
   refine wG rfl rfl (g_indexAddr (sz := 3) rfl (.mk rfl rfl) (.mk rfl rfl) rfl rfl rfl (by omega) (fun w hw => vec_some hw (.tail _ (.tail _ (.tail _ (.tail _ (.tail _ (.head _)))))) (by omega))) ?_
   refine wG rfl rfl (g_loadA rfl (.mk rfl rfl) rfl rfl (rdr_vec (cs := ldv [x0, y0, z0]) (by repeat constructor) (by omega) hri)) ?_
   refine WL.want rfl (WL1.alloc rfl rfl rfl rfl (fun b8 => ?_))
   refine WL.want rfl (WL1.storeAll rfl rfl (.mk rfl rfl) (.mk rfl rfl) rfl (all1 rfl) (by first | rfl | (simp [Blk.len]; done)) (.head) ?_)
   refine wN hK ?_; clear hK
   refine uS rfl fun K hK => ?_
   refine jm rfl rfl ?_
   refine wN hK ?_; clear hK
   refine WC.seq fun K hK => ?_
   refine uS rfl fun K hK => ?_
   refine jp rfl rfl rfl ?_
   refine wG rfl rfl (g_nilCheck rfl (.mk rfl rfl) (fun _ _ => rfl)) ?_
   refine ja 1 rfl rfl rfl rfl ?_
   refine jl rfl rfl rfl (rd_pt (.tail _ (.tail _ (.tail _ (.tail _ (.tail _ (.head _)))))) rfl) ?_
   refine jn rfl rfl rfl ?_
   refine jm rfl rfl ?_
   refine wN hK ?_; clear hK
   refine WC.block ?_
   refine WC.nilvec 3 1 ?_
   refine WC.loopI2 (72055395014675968) (fun (j : Nat) (X : Option Addr × Nat) => [(41, iv j), (9, .slice X.1 (plF P i j).length X.2)]) (fun j X => vec X.1 (plF P i j).length X.2 3 1 (ldv (plF P i j)) :: pt b8 COT (ldv [x0, y0, z0]) :: pt b6 DT [iv 13, .slice G i cG] :: vec G i cG 29 1 (rs.map IRow.v) :: rowsI rs :: pt b2 DT [iv 0, .slice none 0 0] :: pt bs SPT [bpv bf, .slice A 13 c, .map (some bm)] :: vec A 13 c COT 3 (cc P) :: pt bf FT [iv 3, iv 3, .slice S 3 cS, .slice Pp 3 cP] :: vec S 3 cS 29 1 (sm.map IRow.v) :: rowsI sm :: vec Pp 3 cP 29 1 (pr.map IRow.v) :: rowsI pr :: []) (fun j _ => j ≤ 13) (fun j _ => 13 - j) 0 (none, 0) ⟨rfl, rfl, trivial⟩ (by exact Imp.pick (by repeat constructor) (Imp.pick (by repeat constructor) (Imp.pick (by repeat constructor) (Imp.pick (by repeat constructor) (Imp.pick (by repeat constructor) (Imp.pick (by repeat constructor) (Imp.pick (by repeat constructor) (Imp.pick (by repeat constructor) (Imp.pick (by repeat constructor) (Imp.pick (by repeat constructor) (Imp.pick (by repeat constructor) (Imp.pick (by repeat constructor) (Imp.pick (by repeat constructor) (Imp.nil _)))))))))))))) (by omega) ?_
   rintro j ⟨X, cX⟩ U2 hj
   dsimp only
   by_cases hltj : j < 13
   · have hrj := hrd j hltj
     have hdj := fun {bs bf} (w : World) (h1 : w.cell? ⟨bs, 0, none⟩ = some (bpv bf)) (h2 : FldAt w bf) => hdt j hltj w h1 h2
     have hfij := @hfii j
     have hfoj := @hfoi j
     have hpl := plF_len P i j
     obtain ⟨x1, y1, z1, hx1⟩ := threeP (hr3 j hltj)
     rw [hx1] at hrj hdj hfij hfoj
     by_cases h0 : dS [x0, y0, z0] [x1, y1, z1] 3 = 0
     · rw [h0] at hdj
       have hst := hfij h0
       have hl1 : (plF P i j ++ [j]).length = (plF P i j).length + 1 := by rw [List.length_append]; rfl
       have hld : ldv (plF P i j) ++ [iv j] = ldv (plF P i j ++ [j]) := by unfold ldv; rw [List.map_append]; rfl
       refine uS rfl fun K hK => ?_
       refine jt rfl rfl (by omega) ?_
       refine wN hK ?_; clear hK
       refine WC.seq fun K hK => ?_
       refine uT rfl rfl ?_
       refine WC.skip ?_
       (refine hK _ _ ?_; clear hK)
       refine WC.seq fun K hK => ?_
       refine WC.block ?_
       refine uS rfl fun K hK => ?_
       refine jm rfl rfl ?_
       refine wG rfl rfl (g_indexAddr (sz := 3) rfl (.mk rfl rfl) (.mk rfl rfl) rfl rfl rfl (by omega) (fun w hw => vec_some hw (.tail _ (.tail _ (.tail _ (.tail _ (.tail _ (.tail _ (.tail _ (.head _)))))))) (by omega))) ?_
       refine wG rfl rfl (g_loadA rfl (.mk rfl rfl) rfl rfl (rdr_vec (cs := ldv [x1, y1, z1]) (by repeat constructor) (by omega) hrj)) ?_
       refine WL.want rfl (WL1.alloc rfl rfl rfl rfl (fun b11 => ?_))
       refine jm rfl rfl ?_
       refine WL.want rfl (WL1.storeAll rfl rfl (.mk rfl rfl) (.mk rfl rfl) rfl (all1 rfl) (by first | rfl | (simp [Blk.len]; done)) (.head) ?_)
       refine wN hK ?_; clear hK
       refine uS rfl fun K hK => ?_
       refine jp rfl rfl rfl ?_
       refine wG rfl rfl (g_loadA rfl (.mk rfl rfl) rfl rfl (rdr_pt (cs := ldv [x0, y0, z0]) (by repeat constructor) (fun j u h => by simpa using h))) ?_
       refine wG rfl rfl (g_loadA rfl (.mk rfl rfl) rfl rfl (rdr_pt (cs := ldv [x1, y1, z1]) (by repeat constructor) (fun j u h => by simpa using h))) ?_
       refine WL.want rfl (WL1.callP rfl rfl rfl (.cons (.mk (v := cellPtr _ _) rfl rfl) (.cons (.mk (v := .agg _) rfl rfl) (.cons (.mk (v := .agg _) rfl rfl) .nil))) (fun w hw => hdj w (cell_pt hw (by repeat constructor) rfl) (FldAt.of hw (by repeat constructor) (by repeat constructor) (by repeat constructor) (by repeat constructor) (by repeat constructor) e1 e2)) ?_)
       refine jt rfl rfl (by omega) ?_
       refine wN hK ?_; clear hK
       refine uT rfl rfl ?_
       refine WC.region rfl ?_
       iterate 2 refine jm rfl rfl ?_
       refine WL.want rfl (WL1.lit (cs := [_]) elI rfl rfl rfl (.cons (.mk (v := .int _ _) rfl rfl) .nil) rfl (by first | (simp [Value.cells]; done) | fail) rfl rfl (fun b53 => ?_))
       refine WL.want rfl (WL1.append elI rfl rfl (.mk rfl rfl) (.mk rfl rfl) (.tail (.tail (.head))) (fun w hw => Sl.of_vec hw (.head _)) (all1 rfl) (by unfold maxLen; omega) (by omega) (fun A54 c54 => ?_))
       refine jm rfl rfl ?_
       refine wN hK ?_; clear hK
       refine WC.region rfl ?_
       refine ji rfl rfl (by omega) ?_
       refine jm rfl rfl ?_
       refine WL.nil ?_
       refine ⟨j + 1, (A54, c54), (by repeat (first | with_reducible exact .refl _ _ | refine .set rfl ?_ | refine .put rfl ?_ | refine .sets rfl ?_ | refine .hav rfl ?_ | exact .refl _ _)), ⟨rfl, by show Value.slice A54 _ c54 = Value.slice A54 (plF P i (j + 1)).length c54; rw [hst, hl1], trivial⟩, ?_, by omega, by omega⟩
       dsimp only
       rw [hst, hl1, ← hld]
       exact Imp.pick (by repeat constructor) (Imp.pick (by repeat constructor) (Imp.pick (by repeat constructor) (Imp.pick (by repeat constructor) (Imp.pick (by repeat constructor) (Imp.pick (by repeat constructor) (Imp.pick (by repeat constructor) (Imp.pick (by repeat constructor) (Imp.pick (by repeat constructor) (Imp.pick (by repeat constructor) (Imp.pick (by repeat constructor) (Imp.pick (by repeat constructor) (Imp.pick (by repeat constructor) (Imp.nil _)))))))))))))
     · have hst := hfoj h0
       generalize dS [x0, y0, z0] [x1, y1, z1] 3 = zz at hdj h0
       refine uS rfl fun K hK => ?_
       refine jt rfl rfl (by omega) ?_
       refine wN hK ?_; clear hK
       refine WC.seq fun K hK => ?_
       refine uT rfl rfl ?_
       refine WC.skip ?_
       (refine hK _ _ ?_; clear hK)
       refine WC.seq fun K hK => ?_
       refine WC.block ?_
       refine uS rfl fun K hK => ?_
       refine jm rfl rfl ?_
       refine wG rfl rfl (g_indexAddr (sz := 3) rfl (.mk rfl rfl) (.mk rfl rfl) rfl rfl rfl (by omega) (fun w hw => vec_some hw (.tail _ (.tail _ (.tail _ (.tail _ (.tail _ (.tail _ (.tail _ (.head _)))))))) (by omega))) ?_
       refine wG rfl rfl (g_loadA rfl (.mk rfl rfl) rfl rfl (rdr_vec (cs := ldv [x1, y1, z1]) (by repeat constructor) (by omega) hrj)) ?_
       refine WL.want rfl (WL1.alloc rfl rfl rfl rfl (fun b11 => ?_))
       refine jm rfl rfl ?_
       refine WL.want rfl (WL1.storeAll rfl rfl (.mk rfl rfl) (.mk rfl rfl) rfl (all1 rfl) (by first | rfl | (simp [Blk.len]; done)) (.head) ?_)
       refine wN hK ?_; clear hK
       refine uS rfl fun K hK => ?_
       refine jp rfl rfl rfl ?_
       refine wG rfl rfl (g_loadA rfl (.mk rfl rfl) rfl rfl (rdr_pt (cs := ldv [x0, y0, z0]) (by repeat constructor) (fun j u h => by simpa using h))) ?_
       refine wG rfl rfl (g_loadA rfl (.mk rfl rfl) rfl rfl (rdr_pt (cs := ldv [x1, y1, z1]) (by repeat constructor) (fun j u h => by simpa using h))) ?_
       refine WL.want rfl (WL1.callP rfl rfl rfl (.cons (.mk (v := cellPtr _ _) rfl rfl) (.cons (.mk (v := .agg _) rfl rfl) (.cons (.mk (v := .agg _) rfl rfl) .nil))) (fun w hw => hdj w (cell_pt hw (by repeat constructor) rfl) (FldAt.of hw (by repeat constructor) (by repeat constructor) (by repeat constructor) (by repeat constructor) (by repeat constructor) e1 e2)) ?_)
       refine jf rfl rfl (by omega) ?_
       refine wN hK ?_; clear hK
       refine uF rfl rfl ?_
       refine WC.skip ?_
       (refine hK _ _ ?_; clear hK)
       refine WC.region rfl ?_
       refine ji rfl rfl (by omega) ?_
       refine jm rfl rfl ?_
       refine WL.nil ?_
       refine ⟨j + 1, (X, cX), (by repeat (first | with_reducible exact .refl _ _ | refine .set rfl ?_ | refine .put rfl ?_ | refine .sets rfl ?_ | refine .hav rfl ?_ | exact .refl _ _)), ⟨rfl, by show Value.slice X _ cX = Value.slice X (plF P i (j + 1)).length cX; rw [hst], trivial⟩, ?_, by omega, by omega⟩
       dsimp only
       rw [hst]
       exact Imp.pick (by repeat constructor) (Imp.pick (by repeat constructor) (Imp.pick (by repeat constructor) (Imp.pick (by repeat constructor) (Imp.pick (by repeat constructor) (Imp.pick (by repeat constructor) (Imp.pick (by repeat constructor) (Imp.pick (by repeat constructor) (Imp.pick (by repeat constructor) (Imp.pick (by repeat constructor) (Imp.pick (by repeat constructor) (Imp.pick (by repeat constructor) (Imp.pick (by repeat constructor) (Imp.nil _)))))))))))))
   · obtain rfl : j = 13 := by omega
     refine uS rfl fun K hK => ?_
     refine jf rfl rfl (by omega) ?_
     refine wN hK ?_; clear hK
     refine WC.seq fun K hK => ?_
     refine uF rfl rfl ?_
     refine WC.exit ?_
     (clear hK; refine hK _ _ ?_; clear hK)
     refine WC.region rfl ?_
     refine ja 1 rfl rfl rfl rfl ?_
     refine jl rfl rfl rfl (rd_pt (.tail _ (.tail _ (.head _))) rfl) ?_
     refine jm rfl rfl ?_
     refine WL.want rfl (WL1.lit (cs := [_]) elRI rfl rfl rfl (.cons (.mk (v := .slice _ _ _) rfl rfl) .nil) rfl (by first | (simp [Value.cells]; done) | fail) rfl rfl (fun b59 => ?_))
     refine WL.want rfl (WL1.append elRI rfl rfl (.mk rfl rfl) (.mk rfl rfl) (.tail (.tail (.tail (.tail (.head))))) (fun w hw => Sl.of_vec hw (.head _)) (all1 rfl) (by unfold maxLen; omega) (by omega) (fun A60 c60 => ?_))
     refine ja 1 rfl rfl rfl rfl ?_
     refine WL.want rfl (WL1.store1 rfl rfl (.mk rfl rfl) (.mk (v := .slice _ _ _) rfl rfl) rfl rfl (Nat.le_of_ble_eq_true rfl) (.tail (.tail (.tail (.tail (.head))))) ?_)
     refine wN hK ?_; clear hK
     refine WC.region rfl ?_
     refine ji rfl rfl (by omega) ?_
     refine jm rfl rfl ?_
     refine WL.nil ?_
     have o1 : (⟨X, cX, plF P i 13⟩ : IRow).own = vec X (plF P i 13).length cX 3 1 (ldv (plF P i 13)) := rfl
     have v1 : (rs ++ [(⟨X, cX, plF P i 13⟩ : IRow)]).map IRow.v = rs.map IRow.v ++ [.slice X (plF P i 13).length cX] := by rw [List.map_append]; rfl
     refine ⟨i + 1, (A60, c60), rs ++ [(⟨X, cX, plF P i 13⟩ : IRow)], (by repeat (first | with_reducible exact .refl _ _ | refine .set rfl ?_ | refine .put rfl ?_ | refine .sets rfl ?_ | refine .hav rfl ?_ | exact .refl _ _)), ⟨rfl, trivial⟩, ?_, ⟨by omega, by rw [List.length_append, hrl]; rfl, ?_⟩, by omega⟩
     · dsimp only
       rw [v1]
       refine Imp.trans (M := (⟨X, cX, plF P i 13⟩ : IRow).own :: rowsI rs :: pt b6 DT [iv 13, .slice A60 (i + 1) c60] :: vec A60 (i + 1) c60 29 1 (rs.map IRow.v ++ [.slice X (plF P i 13).length cX]) :: pt b2 DT [iv 0, .slice none 0 0] :: pt bs SPT [bpv bf, .slice A 13 c, .map (some bm)] :: vec A 13 c COT 3 (cc P) :: pt bf FT [iv 3, iv 3, .slice S 3 cS, .slice Pp 3 cP] :: vec S 3 cS 29 1 (sm.map IRow.v) :: rowsI sm :: vec Pp 3 cP 29 1 (pr.map IRow.v) :: rowsI pr :: []) ?_ (Imp.trans rowsI_new ?_)
       · rw [o1]
         exact Imp.pick (by repeat constructor) (Imp.pick (by repeat constructor) (Imp.pick (by repeat constructor) (Imp.pick (by repeat constructor) (Imp.pick (by repeat constructor) (Imp.pick (by repeat constructor) (Imp.pick (by repeat constructor) (Imp.pick (by repeat constructor) (Imp.pick (by repeat constructor) (Imp.pick (by repeat constructor) (Imp.pick (by repeat constructor) (Imp.pick (by repeat constructor) (Imp.nil _))))))))))))
       · exact Imp.pick (by repeat constructor) (Imp.pick (by repeat constructor) (Imp.pick (by repeat constructor) (Imp.pick (by repeat constructor) (Imp.pick (by repeat constructor) (Imp.pick (by repeat constructor) (Imp.pick (by repeat constructor) (Imp.pick (by repeat constructor) (Imp.pick (by repeat constructor) (Imp.pick (by repeat constructor) (Imp.pick (by repeat constructor) (Imp.nil _)))))))))))
     · rw [List.map_append, hrs, List.range_succ, List.map_append]; rfl
 · obtain rfl : i = 13 := by omega
   refine uS rfl fun K hK => ?_
   refine jf rfl rfl (by omega) ?_
   refine wN hK ?_; clear hK
   refine WC.seq fun K hK => ?_
   refine uF rfl rfl ?_
   refine WC.exit ?_
   (clear hK; refine hK _ _ ?_; clear hK)
   refine uS rfl fun K hK => ?_
   refine wG rfl rfl (g_loadA rfl (.mk rfl rfl) rfl rfl (rdr_pt (cs := [iv 13, .slice G 13 cG]) (by repeat constructor) (fun j u h => by simpa using h))) ?_
   refine WL.want rfl (WL1.storeAll rfl rfl (.mk rfl rfl) (.mk rfl rfl) rfl (all1 rfl) (by first | rfl | (simp [Blk.len]; done)) (.tail (.tail (.tail (.head)))) ?_)
   refine jm rfl rfl ?_
   refine wN hK ?_; clear hK
   refine WC.ret ?_
   exact ⟨_, .cell rfl rfl rfl rfl (by repeat constructor) (.tmp rfl rfl .nil), fun w' hw' => ⟨_, dsgA G cG rs, rfl, (by rw [dsgA, hrl]; exact (Imp.pick (by repeat constructor) (Imp.pick (by repeat constructor) (Imp.nil _))).h hw'), G, cG, rs, hrs, by rw [hrl]; rfl, rfl⟩⟩
set_option maxHeartbeats 2000000 in
theorem choose_13 (w : World) : Calls Tryz.prog 29 #[iv 13, iv 4] w fun e w' => ∃ u M, e = .returned u ∧ H w M w' ∧ ∃ A c rs, ils rs = plG ∧ u = .tuple #[dsgV 13 A c rs, iv 0] ∧ M = dsgA A c rs := by
 have hpj : ∀ w, Calls Tryz.prog 80 ([iv (4 - 1)] ++ []).toArray w fun e w' => ∃ u M, e = .returned u ∧ H w M w' ∧ ∃ A c rs, rs.map IRow.l = plG ∧ u = .tuple #[.agg #[iv 13, .slice A rs.length c], iv 0] ∧ M = dsgA A c rs := fun w => proj3_n w
 refine calls_wcG (args := [iv 13, iv 4]) [.cell 4 61, .tmp 5] [] Tryz.func29 rfl Tryz.ntmps29 rfl rfl (H.refl _) ?_
 refine uS rfl fun K hK => ?_
 refine WL.want rfl (WL1.alloc rfl rfl rfl rfl (fun b4 => ?_))
 refine jm rfl rfl ?_
 refine wN hK ?_; clear hK
 refine WC.seq fun K hK => ?_
 refine uS rfl fun K hK => ?_
 refine jm rfl rfl ?_
 refine jf rfl rfl (by omega) ?_
 refine jm rfl rfl ?_
 refine qm rfl rfl ?_
 refine qf rfl rfl (by omega) ?_
 iterate 2 refine jm rfl rfl ?_
 iterate 2 refine qm rfl rfl ?_
 refine qf rfl rfl (by omega) ?_
 iterate 2 refine jm rfl rfl ?_
 refine qm rfl rfl ?_
 refine qf rfl rfl (by omega) ?_
 refine jm rfl rfl ?_
 refine wN hK ?_; clear hK
 refine uF rfl rfl ?_
 refine WC.skip ?_
 (refine hK _ _ ?_; clear hK)
 refine uS rfl fun K hK => ?_
 iterate 2 refine jm rfl rfl ?_
 refine ji rfl rfl (by omega) ?_
 refine jm rfl rfl ?_
 iterate 2 refine ji rfl rfl (by omega) ?_
 refine jm rfl rfl ?_
 refine ji rfl rfl (by omega) ?_
 refine wG rfl rfl (g_build (cs := [_, _, _]) rfl rfl rfl rfl (.cons (.mk (v := .int _ _) rfl rfl) (.cons (.mk (v := .int _ _) rfl rfl) (.cons (.mk (v := .func _ _ _) rfl rfl) .nil))) rfl rfl rfl) ?_
 iterate 2 refine jm rfl rfl ?_
 refine ji rfl rfl (by omega) ?_
 refine jm rfl rfl ?_
 refine wG rfl rfl (g_build (cs := [_, _, _]) rfl rfl rfl rfl (.cons (.mk (v := .int _ _) rfl rfl) (.cons (.mk (v := .int _ _) rfl rfl) (.cons (.mk (v := .func _ _ _) rfl rfl) .nil))) rfl rfl rfl) ?_
 refine WL.want rfl (WL1.lit elKd rfl rfl rfl (.cons (.mk (v := .agg _) rfl rfl) (.cons (.mk (v := .agg _) rfl rfl) .nil)) rfl (by intro v hv; simp only [List.mem_cons, List.not_mem_nil, or_false] at hv; rcases hv with rfl | rfl <;> rfl) rfl rfl (fun b41 => ?_))
 refine jm rfl rfl ?_
 refine wN hK ?_; clear hK
 refine WC.seq fun K hK => ?_
 refine uS rfl fun K hK => ?_
 refine jm rfl rfl ?_
 refine jn rfl rfl rfl ?_
 refine jm rfl rfl ?_
 refine wN hK ?_; clear hK
 refine WC.block ?_
 refine WC.imp (M := [vec (some ⟨b41, 0, none⟩) 2 2 KT 3 [iv (4 * 4 - 4 + 1), iv (4 - 1), .func (.func 80) #[] #[], iv (4 * 4), iv 4, .func (.func 81) #[] #[]], pt b4 DT [iv 0, .slice none 0 0]]) (Imp.refl _) ?_
 refine WC.loop (18446726481523509024) (fun i : Nat => [(44, iv i)]) (fun _ => [vec (some ⟨b41, 0, none⟩) 2 2 KT 3 [iv (4 * 4 - 4 + 1), iv (4 - 1), .func (.func 80) #[] #[], iv (4 * 4), iv 4, .func (.func 81) #[] #[]], pt b4 DT [iv 0, .slice none 0 0]]) (fun i => i = 0) (fun i => 2 - i) 0 ⟨rfl, trivial⟩ (.refl _) rfl ?_
 rintro i U rfl
 have g0 : ∀ j u, ([iv (4 * 4 - 4 + 1), iv (4 - 1), .func (.func 80) #[] #[]] : List Value)[j]? = some u → ([iv (4 * 4 - 4 + 1), iv (4 - 1), .func (.func 80) #[] #[], iv (4 * 4), iv 4, .func (.func 81) #[] #[]] : List Value)[0 * 3 + j]? = some u := fun j u h => pre_get (es := [iv (4 * 4), iv 4, .func (.func 81) #[] #[]]) (by omega) h
 refine uS rfl fun K hK => ?_
 refine jt rfl rfl (by omega) ?_
 refine wN hK ?_; clear hK
 refine WC.seq fun K hK => ?_
 refine uT rfl rfl ?_
 refine WC.skip ?_
 (refine hK _ _ ?_; clear hK)
 refine WC.seq fun K hK => ?_
 refine WC.block ?_
 refine uS rfl fun K hK => ?_
 refine wG rfl rfl (g_indexAddr (sz := 3) rfl (.mk rfl rfl) (.mk rfl rfl) rfl rfl (show _ = ((0 : Nat) : Int) from rfl) (by omega) (fun _ _ => rfl)) ?_
 refine wG rfl rfl (g_loadA rfl (.mk rfl rfl) rfl rfl (rdr_vec (cs := [iv (4 * 4 - 4 + 1), iv (4 - 1), .func (.func 80) #[] #[]]) (by repeat constructor) (by omega) g0)) ?_
 refine WL.want rfl (WL1.alloc rfl rfl rfl rfl (fun b8 => ?_))
 refine WL.want rfl (WL1.storeAll rfl rfl (.mk rfl rfl) (.mk rfl rfl) rfl (all1 rfl) (by first | rfl | (simp [Blk.len]; done)) (.head) ?_)
 refine wN hK ?_; clear hK
 refine WC.seq fun K hK => ?_
 refine uS rfl fun K hK => ?_
 refine ja 0 rfl rfl rfl rfl ?_
 refine jl rfl rfl rfl (rd_pt (.head _) rfl) ?_
 refine jm rfl rfl ?_
 refine jf rfl rfl (by omega) ?_
 refine wN hK ?_; clear hK
 refine uF rfl rfl ?_
 refine WC.skip ?_
 (refine hK _ _ ?_; clear hK)
 refine uS rfl fun K hK => ?_
 refine ja 2 rfl rfl rfl rfl ?_
 refine jl rfl rfl rfl (rd_pt (.head _) rfl) ?_
 refine ja 1 rfl rfl rfl rfl ?_
 refine jl rfl rfl rfl (rd_pt (.head _) rfl) ?_
 (refine WL.want rfl (WL1.callVN rfl rfl (.mk rfl rfl) (by first | assumption | rfl | kernel_rfl) (.cons (.mk (v := .int _ _) rfl rfl) .nil) (fun w hw => hpj w) ?_); rintro _ _ ⟨A, c, rs, hrs, rfl, rfl⟩)
 iterate 3 refine jm rfl rfl ?_
 refine WL.want rfl (WL1.alloc rfl rfl rfl rfl (fun b9 => ?_))
 refine WL.want rfl (WL1.storeAll rfl rfl (.mk rfl rfl) (.mk rfl rfl) rfl (all1 rfl) (by first | rfl | (simp [Blk.len]; done)) (.head) ?_)
 refine jm rfl rfl ?_
 refine wN hK ?_; clear hK
 refine uS rfl fun K hK => ?_
 refine jm rfl rfl ?_
 refine jt rfl rfl (by omega) ?_
 refine wN hK ?_; clear hK
 refine uT rfl rfl ?_
 refine uS rfl fun K hK => ?_
 refine wG rfl rfl (g_loadA rfl (.mk rfl rfl) rfl rfl (rdr_pt (cs := [iv 13, .slice _ _ _]) (by repeat constructor) (fun j u h => by simpa using h))) ?_
 refine WL.want rfl (WL1.storeAll rfl rfl (.mk rfl rfl) (.mk rfl rfl) rfl (all1 rfl) (by first | rfl | (simp [Blk.len]; done)) (.tail (.tail (.tail (.tail (.tail (.head)))))) ?_)
 refine jm rfl rfl ?_
 refine wN hK ?_; clear hK
 refine WC.ret ?_
 exact ⟨_, .cell rfl rfl rfl rfl (by repeat constructor) (.tmp rfl rfl .nil), fun w' hw' => ⟨_, _, rfl, (Imp.pick (by repeat constructor) (Imp.pick (by repeat constructor) (Imp.nil _))).h hw', A, c, rs, hrs, rfl, rfl⟩⟩
section
variable (d wd t : Nat) (w : World) (v k : Nat) (hd : d < 256) (hwd : wd < 256) (ht : t < 256) (hv : 5 + d % 9 = v) (hk : 4 + wd % 3 = k)
include hd hwd ht hv hk
set_option maxHeartbeats 2000000 in
theorem chosen_y9 (q : Nat) (hq : q ≤ 130) (gs : List (List Nat))
   (h1 : ∀ w, Calls Tryz.prog 55 #[iv v, iv k] w fun e w' => ∃ u M, e = .returned u ∧ H w M w' ∧ ∃ A c, u = .tuple #[.agg #[iv v, .slice A q c], iv 0] ∧ M = [])
   (h2 : ∀ w, Calls Tryz.prog 29 #[iv v, iv k] w fun e w' => ∃ u M, e = .returned u ∧ H w M w' ∧ ∃ A c rs, ils rs = gs ∧ u = .tuple #[dsgV v A c rs, iv 0] ∧ M = dsgA A c rs) :
   Calls Tryz.prog 18 #[.int .u8 d, .int .u8 wd, .int .u8 t, .int .u8 39] w fun e w' => ∃ u M, e = .returned u ∧ H w M w' ∧ ∃ A c rs, ils rs = gs ∧ u = .tuple #[layV v A c rs (1 + t % 3) 39, .bool true] ∧ M = dsgA A c rs := by
 have r1 : (d : Int).tmod 9 = ((v - 5 : Nat) : Int) := by rw [Int.tmod_eq_emod_of_nonneg (by omega)]; omega
 have r2 : (wd : Int).tmod 3 = ((k - 4 : Nat) : Int) := by rw [Int.tmod_eq_emod_of_nonneg (by omega)]; omega
 obtain ⟨z, hz⟩ : ∃ z, z = t % 3 := ⟨_, rfl⟩
 have r3 : (t : Int).tmod 3 = (z : Int) := by rw [Int.tmod_eq_emod_of_nonneg (by omega)]; omega
 have r4 : (39 : Int).tmod 40 = 39 := rfl
 rw [← hz]
 have hz3 : z ≤ 2 := by omega
 have e1 : (5 : Int) + ((v - 5 : Nat) : Int) = v := by omega
 have e2 : (4 : Int) + ((k - 4 : Nat) : Int) = k := by omega
 have e3 : (1 : Int) + (z : Int) = ((1 + z : Nat) : Int) := by omega
 have hv5 : v - 5 ≤ 8 := by omega
 have hk4 : k - 4 ≤ 2 := by omega
 clear hz hv hk
 generalize v - 5 = v5 at *
 generalize k - 4 = k4 at *
 rw [← e1, ← e2] at h1 h2
 refine calls_wcG (args := [.int .u8 d, .int .u8 wd, .int .u8 t, .int .u8 39]) [.cell 8 63, .tmp 9] [] Tryz.func18 rfl Tryz.ntmps18 rfl rfl (H.refl _) ?_
 refine uS rfl fun K hK => ?_
 refine WL.want rfl (WL1.alloc rfl rfl rfl rfl (fun b8 => ?_))
 refine jm rfl rfl ?_
 refine wN hK ?_; clear hK
 refine uS rfl fun K hK => ?_
 refine jm rfl rfl ?_
 refine wG rfl rfl (g_rem rfl (.mk rfl rfl) (.mk rfl rfl) (by omega) r1) ?_
 refine wG rfl rfl (g_conv rfl rfl rfl (.mk rfl rfl) (IntWalk.i64_in _ (by omega))) ?_
 refine ji rfl rfl (by omega) ?_
 refine jm rfl rfl ?_
 refine wN hK ?_; clear hK
 refine uS rfl fun K hK => ?_
 refine jm rfl rfl ?_
 refine wG rfl rfl (g_rem rfl (.mk rfl rfl) (.mk rfl rfl) (by omega) r2) ?_
 refine wG rfl rfl (g_conv rfl rfl rfl (.mk rfl rfl) (IntWalk.i64_in _ (by omega))) ?_
 refine ji rfl rfl (by omega) ?_
 refine jm rfl rfl ?_
 refine wN hK ?_; clear hK
 refine uS rfl fun K hK => ?_
 iterate 2 refine jm rfl rfl ?_
 (refine WL.want rfl (WL1.callN rfl rfl rfl (.cons (.mk (v := .int _ _) rfl rfl) (.cons (.mk (v := .int _ _) rfl rfl) .nil)) (fun w hw => h1 w) ?_); rintro _ _ ⟨A0, c0, rfl, rfl⟩)
 iterate 3 refine jm rfl rfl ?_
 refine WL.want rfl (WL1.alloc rfl rfl rfl rfl (fun b12 => ?_))
 refine WL.want rfl (WL1.storeAll rfl rfl (.mk rfl rfl) (.mk rfl rfl) rfl (all1 rfl) (by first | rfl | (simp [Blk.len]; done)) (.head) ?_)
 refine jm rfl rfl ?_
 refine wN hK ?_; clear hK
 refine WC.seq fun K hK => ?_
 refine uS rfl fun K hK => ?_
 refine jm rfl rfl ?_
 refine jf rfl rfl (by omega) ?_
 refine jm rfl rfl ?_
 refine qa 1 rfl rfl rfl rfl ?_
 refine ql rfl rfl rfl (rd_pt (.head _) rfl) ?_
 refine qn rfl rfl rfl ?_
 refine qf rfl rfl (by omega) ?_
 refine jm rfl rfl ?_
 refine wN hK ?_; clear hK
 refine uF rfl rfl ?_
 refine WC.skip ?_
 (refine hK _ _ ?_; clear hK)
 refine uS rfl fun K hK => ?_
 iterate 2 refine jm rfl rfl ?_
 (refine WL.want rfl (WL1.callN rfl rfl rfl (.cons (.mk (v := .int _ _) rfl rfl) (.cons (.mk (v := .int _ _) rfl rfl) .nil)) (fun w hw => h2 w) ?_); rintro _ _ ⟨A, c, rs, hrs, rfl, rfl⟩)
 iterate 3 refine jm rfl rfl ?_
 refine WL.want rfl (WL1.alloc rfl rfl rfl rfl (fun b14 => ?_))
 refine WL.want rfl (WL1.storeAll rfl rfl (.mk rfl rfl) (.mk rfl rfl) rfl (all1 rfl) (by first | rfl | (simp [Blk.len]; done)) (.head) ?_)
 refine jm rfl rfl ?_
 refine wN hK ?_; clear hK
 refine uS rfl fun K hK => ?_
 refine wG rfl rfl (g_loadA rfl (.mk rfl rfl) rfl rfl (rdr_pt (.head _) (fun j u h => by simpa using h))) ?_
 refine jm rfl rfl ?_
 refine wG rfl rfl (g_rem rfl (.mk rfl rfl) (.mk rfl rfl) (by omega) r3) ?_
 refine wG rfl rfl (g_conv rfl rfl rfl (.mk rfl rfl) (IntWalk.i64_in _ (by omega))) ?_
 refine ji rfl rfl (by omega) ?_
 refine jm rfl rfl ?_
 refine wG rfl rfl (g_rem rfl (.mk rfl rfl) (.mk rfl rfl) (by omega) r4) ?_
 refine wG rfl rfl (g_conv rfl rfl rfl (.mk rfl rfl) (IntWalk.i64_in _ (by omega))) ?_
 refine wG rfl rfl (g_buildS (us := [(0, [iv v, .slice A rs.length c]), (1, [_]), (2, [_])]) (cs := [iv v, .slice A rs.length c, iv ((1 : Int) + z), iv 39]) rfl rfl rfl rfl (.cons (.mk (v := .agg #[iv v, .slice A rs.length c]) rfl rfl) (.cons (.mk (v := .int _ _) rfl rfl) (.cons (.mk (v := .int _ _) rfl rfl) .nil))) rfl (fun p hp => by simp only [List.mem_cons, List.not_mem_nil, or_false] at hp; rcases hp with rfl | rfl | rfl <;> exact ⟨_, _, rfl, rfl, Nat.le_of_ble_eq_true rfl⟩) rfl) ?_
 refine WL.want rfl (WL1.storeAll rfl rfl (.mk rfl rfl) (.mk rfl rfl) rfl (all1 rfl) (by first | rfl | (simp [Blk.len]; done)) (.tail (.tail (.tail (.tail (.head))))) ?_)
 refine jm rfl rfl ?_
 refine wN hK ?_; clear hK
 refine WC.ret ?_
 exact ⟨_, .cell rfl rfl rfl rfl (by repeat constructor) (.tmp rfl rfl .nil), fun w' hw' => ⟨_, _, rfl, (Imp.pick (by repeat constructor) (Imp.pick (by repeat constructor) (Imp.nil _))).h hw', A, c, rs, hrs, by show _ = Value.tuple #[.agg #[iv v, .slice A rs.length c, iv ((1 + z : Nat) : Int), iv ((39 : Nat) : Int)], .bool true]; rw [← e3]; rfl, rfl⟩⟩
set_option maxHeartbeats 2000000 in
theorem chosen_n9 (q : Nat) (hq : 130 < q) (hq2 : q ≤ 4097)
   (h1 : ∀ w, Calls Tryz.prog 55 #[iv v, iv k] w fun e w' => ∃ u M, e = .returned u ∧ H w M w' ∧ ∃ A c, u = .tuple #[.agg #[iv v, .slice A q c], iv 0] ∧ M = []) :
   Calls Tryz.prog 18 #[.int .u8 d, .int .u8 wd, .int .u8 t, .int .u8 39] w fun e w' => e = .returned (.tuple #[.agg #[iv 0, .slice none 0 0, iv 0, iv 0], .bool false]) ∧ Below w.heap.size w w' := by
 have _ := ht
 have r1 : (d : Int).tmod 9 = ((v - 5 : Nat) : Int) := by rw [Int.tmod_eq_emod_of_nonneg (by omega)]; omega
 have r2 : (wd : Int).tmod 3 = ((k - 4 : Nat) : Int) := by rw [Int.tmod_eq_emod_of_nonneg (by omega)]; omega
 have e1 : (5 : Int) + ((v - 5 : Nat) : Int) = v := by omega
 have e2 : (4 : Int) + ((k - 4 : Nat) : Int) = k := by omega
 have hv5 : v - 5 ≤ 8 := by omega
 have hk4 : k - 4 ≤ 2 := by omega
 clear hv hk
 generalize v - 5 = v5 at *
 generalize k - 4 = k4 at *
 rw [← e1, ← e2] at h1
 refine calls_wcG (args := [.int .u8 d, .int .u8 wd, .int .u8 t, .int .u8 39]) [.cell 8 63, .tmp 9] [] Tryz.func18 rfl Tryz.ntmps18 rfl rfl (H.refl _) ?_
 refine uS rfl fun K hK => ?_
 refine WL.want rfl (WL1.alloc rfl rfl rfl rfl (fun b8 => ?_))
 refine jm rfl rfl ?_
 refine wN hK ?_; clear hK
 refine uS rfl fun K hK => ?_
 refine jm rfl rfl ?_
 refine wG rfl rfl (g_rem rfl (.mk rfl rfl) (.mk rfl rfl) (by omega) r1) ?_
 refine wG rfl rfl (g_conv rfl rfl rfl (.mk rfl rfl) (IntWalk.i64_in _ (by omega))) ?_
 refine ji rfl rfl (by omega) ?_
 refine jm rfl rfl ?_
 refine wN hK ?_; clear hK
 refine uS rfl fun K hK => ?_
 refine jm rfl rfl ?_
 refine wG rfl rfl (g_rem rfl (.mk rfl rfl) (.mk rfl rfl) (by omega) r2) ?_
 refine wG rfl rfl (g_conv rfl rfl rfl (.mk rfl rfl) (IntWalk.i64_in _ (by omega))) ?_
 refine ji rfl rfl (by omega) ?_
 refine jm rfl rfl ?_
 refine wN hK ?_; clear hK
 refine uS rfl fun K hK => ?_
 iterate 2 refine jm rfl rfl ?_
 (refine WL.want rfl (WL1.callN rfl rfl rfl (.cons (.mk (v := .int _ _) rfl rfl) (.cons (.mk (v := .int _ _) rfl rfl) .nil)) (fun w hw => h1 w) ?_); rintro _ _ ⟨A0, c0, rfl, rfl⟩)
 iterate 3 refine jm rfl rfl ?_
 refine WL.want rfl (WL1.alloc rfl rfl rfl rfl (fun b12 => ?_))
 refine WL.want rfl (WL1.storeAll rfl rfl (.mk rfl rfl) (.mk rfl rfl) rfl (all1 rfl) (by first | rfl | (simp [Blk.len]; done)) (.head) ?_)
 refine jm rfl rfl ?_
 refine wN hK ?_; clear hK
 refine WC.seq fun K hK => ?_
 refine uS rfl fun K hK => ?_
 refine jm rfl rfl ?_
 refine jf rfl rfl (by omega) ?_
 refine jm rfl rfl ?_
 refine qa 1 rfl rfl rfl rfl ?_
 refine ql rfl rfl rfl (rd_pt (.head _) rfl) ?_
 refine qn rfl rfl rfl ?_
 refine qt rfl rfl (by omega) ?_
 refine jm rfl rfl ?_
 refine wN hK ?_; clear hK
 refine uT rfl rfl ?_
 refine uS rfl fun K hK => ?_
 refine wG rfl rfl (g_buildS (us := []) (cs := [iv 0, .slice none 0 0, iv 0, iv 0]) rfl rfl rfl rfl .nil rfl (fun p hp => by simp at hp) rfl) ?_
 refine WL.want rfl (WL1.storeAll rfl rfl (.mk rfl rfl) (.mk rfl rfl) rfl (all1 rfl) (by first | rfl | (simp [Blk.len]; done)) (.tail (.head)) ?_)
 refine jm rfl rfl ?_
 refine wN hK ?_; clear hK
 refine WC.ret ?_
 exact ⟨_, .cell rfl rfl rfl rfl (by repeat constructor) (.tmp rfl rfl .nil), fun w' hw' => ⟨rfl, hw'.1⟩⟩
set_option maxHeartbeats 2000000 in
theorem chosen_e9 (h1 : ∀ w, Calls Tryz.prog 55 #[iv v, iv k] w fun e w' => e = .returned (.tuple #[.agg #[iv 0, .slice none 0 0], iv 1]) ∧ Below w.heap.size w w') :
   Calls Tryz.prog 18 #[.int .u8 d, .int .u8 wd, .int .u8 t, .int .u8 39] w fun e w' => e = .returned (.tuple #[.agg #[iv 0, .slice none 0 0, iv 0, iv 0], .bool false]) ∧ Below w.heap.size w w' := by
 have _ := ht
 have r1 : (d : Int).tmod 9 = ((v - 5 : Nat) : Int) := by rw [Int.tmod_eq_emod_of_nonneg (by omega)]; omega
 have r2 : (wd : Int).tmod 3 = ((k - 4 : Nat) : Int) := by rw [Int.tmod_eq_emod_of_nonneg (by omega)]; omega
 have e1 : (5 : Int) + ((v - 5 : Nat) : Int) = v := by omega
 have e2 : (4 : Int) + ((k - 4 : Nat) : Int) = k := by omega
 have hv5 : v - 5 ≤ 8 := by omega
 have hk4 : k - 4 ≤ 2 := by omega
 clear hv hk
 generalize v - 5 = v5 at *
 generalize k - 4 = k4 at *
 rw [← e1, ← e2] at h1
 refine calls_wcG (args := [.int .u8 d, .int .u8 wd, .int .u8 t, .int .u8 39]) [.cell 8 63, .tmp 9] [] Tryz.func18 rfl Tryz.ntmps18 rfl rfl (H.refl _) ?_
 refine uS rfl fun K hK => ?_
 refine WL.want rfl (WL1.alloc rfl rfl rfl rfl (fun b8 => ?_))
 refine jm rfl rfl ?_
 refine wN hK ?_; clear hK
 refine uS rfl fun K hK => ?_
 refine jm rfl rfl ?_
 refine wG rfl rfl (g_rem rfl (.mk rfl rfl) (.mk rfl rfl) (by omega) r1) ?_
 refine wG rfl rfl (g_conv rfl rfl rfl (.mk rfl rfl) (IntWalk.i64_in _ (by omega))) ?_
 refine ji rfl rfl (by omega) ?_
 refine jm rfl rfl ?_
 refine wN hK ?_; clear hK
 refine uS rfl fun K hK => ?_
 refine jm rfl rfl ?_
 refine wG rfl rfl (g_rem rfl (.mk rfl rfl) (.mk rfl rfl) (by omega) r2) ?_
 refine wG rfl rfl (g_conv rfl rfl rfl (.mk rfl rfl) (IntWalk.i64_in _ (by omega))) ?_
 refine ji rfl rfl (by omega) ?_
 refine jm rfl rfl ?_
 refine wN hK ?_; clear hK
 refine uS rfl fun K hK => ?_
 iterate 2 refine jm rfl rfl ?_
 refine WL.want rfl (WL1.callP rfl rfl rfl (.cons (.mk (v := .int _ _) rfl rfl) (.cons (.mk (v := .int _ _) rfl rfl) .nil)) (fun w hw => h1 w) ?_)
 iterate 3 refine jm rfl rfl ?_
 refine WL.want rfl (WL1.alloc rfl rfl rfl rfl (fun b12 => ?_))
 refine WL.want rfl (WL1.storeAll rfl rfl (.mk rfl rfl) (.mk rfl rfl) rfl (all1 rfl) (by first | rfl | (simp [Blk.len]; done)) (.head) ?_)
 refine jm rfl rfl ?_
 refine wN hK ?_; clear hK
 refine WC.seq fun K hK => ?_
 refine uS rfl fun K hK => ?_
 refine jm rfl rfl ?_
 refine jt rfl rfl (by omega) ?_
 refine jm rfl rfl ?_
 iterate 4 refine ut rfl rfl ?_
 refine jm rfl rfl ?_
 refine wN hK ?_; clear hK
 refine uT rfl rfl ?_
 refine uS rfl fun K hK => ?_
 refine wG rfl rfl (g_buildS (us := []) (cs := [iv 0, .slice none 0 0, iv 0, iv 0]) rfl rfl rfl rfl .nil rfl (fun p hp => by simp at hp) rfl) ?_
 refine WL.want rfl (WL1.storeAll rfl rfl (.mk rfl rfl) (.mk rfl rfl) rfl (all1 rfl) (by first | rfl | (simp [Blk.len]; done)) (.tail (.head)) ?_)
 refine jm rfl rfl ?_
 refine wN hK ?_; clear hK
 refine WC.ret ?_
 exact ⟨_, .cell rfl rfl rfl rfl (by repeat constructor) (.tmp rfl rfl .nil), fun w' hw' => ⟨rfl, hw'.1⟩⟩
end
theorem irow_at {w : World} {v : Value} {rs : List IRow} (h : IMat w v rs) {i : Nat} (hi : i < rs.length) : ∃ A c, nth rs i = ⟨A, c, nth (ils rs) i⟩ ∧ Sl w 1 (.slice A (nth (ils rs) i).length c) (nth (ils rs) i).length (ldv (nth (ils rs) i)) := by
 have h1 := h.row hi
 have h2 : nth (ils rs) i = (nth rs i).l := nth_map IRow.l hi
 rw [h2]
 refine ⟨(nth rs i).A, (nth rs i).c, rfl, h1⟩
abbrev PT : TypeId := 74
set_option maxHeartbeats 2000000 in
theorem nhome_e {v c t s k r h cp G T g0 p a dk b cR : Nat} {A R : Option Addr} {rs rk : List IRow} {O : Value} (w : World) (hm : IMat w (.slice A rs.length c) rs) (hmk : IMat w (.slice R rk.length cR) rk)
   (hG : G = T * rs.length + g0) (hg0 : g0 < rs.length) (hrl : rk.length = rs.length) (hl : (nth (ils rs) g0).length = k) (hlk : (nth (ils rk) g0).length = k) (ha : a = (p + T) % k) (hdk : nth (nth (ils rs) g0) a = dk) (hb : T * r + nth (nth (ils rk) g0) a = b)
   (hT : T ≤ 1000) (hr : r ≤ 100000) (hb2 : b ≤ 1000000000) (hk1 : 1 ≤ k) (hp : p ≤ 1000) (hn : rs.length ≤ 4096) :
   Calls Tryz.prog 108 #[.agg (numC v A c rs t s k r (.slice R rk.length cR) O h cp).toArray, iv G, iv p] w fun e w' => e = .returned (.agg #[iv dk, iv b]) ∧ Below w.heap.size w w' := by
 show Calls Tryz.prog 108 #[.agg #[iv v, .slice A rs.length c, iv t, iv s, iv k, iv r, iv rs.length, .slice R rk.length cR, O, iv h, iv cp], iv G, iv p] w _
 obtain ⟨A1, c1, e1, s1⟩ := irow_at hm hg0
 obtain ⟨A2, c2, e2, s2⟩ := irow_at hmk (i := g0) (by omega)
 have hak : a < k := by rw [ha]; exact Nat.mod_lt _ (by omega)
 have i1 : (rs.map IRow.v)[g0 * 1]? = some (.slice A1 (nth (ils rs) g0).length c1) := by rw [irowv_get hg0, e1]; rfl
 have i2 : (rk.map IRow.v)[g0 * 1]? = some (.slice A2 (nth (ils rk) g0).length c2) := by rw [irowv_get (by omega), e2]; rfl
 have i3 := ldv_get (ld := nth (ils rs) g0) (k := a) (by omega)
 have i4 := ldv_get (ld := nth (ils rk) g0) (k := a) (by omega)
 rw [hdk] at i3
 rw [hl] at i1 s1
 rw [hlk] at i2 s2
 obtain ⟨y, hy⟩ : ∃ y, y = nth (nth (ils rk) g0) a := ⟨_, rfl⟩
 rw [← hy] at hb i4
 clear e1 e2 hl hlk hdk hy
 generalize nth (ils rs) g0 = l1 at *
 generalize nth (ils rk) g0 = l2 at *
 have hm1 := hm.1
 have hm2 := hmk.1
 generalize rs.map IRow.v = V1 at *
 generalize rk.map IRow.v = V2 at *
 rw [hrl] at hm2
 have hGb : G ≤ 5000000 := by
   have : T * rs.length ≤ 1000 * 4096 := Nat.mul_le_mul hT hn
   omega
 have q1 : IntKind.i64.wrap ((G : Int).tdiv (rs.length : Nat)) = (T : Int) := by
   rw [show (G : Int).tdiv (rs.length : Nat) = ((G / rs.length : Nat) : Int) from rfl, show G / rs.length = T from by rw [hG, Nat.mul_comm, Nat.mul_add_div (by omega), Nat.div_eq_of_lt hg0, Nat.add_zero]]
   exact IntWalk.i64_in _ (by omega)
 have q2 : (G : Int).tmod (rs.length : Nat) = (g0 : Int) := by
   rw [show (G : Int).tmod (rs.length : Nat) = ((G % rs.length : Nat) : Int) from rfl, show G % rs.length = g0 from by rw [hG, Nat.mul_comm, Nat.mul_add_mod, Nat.mod_eq_of_lt hg0]]
 have q3 : ((p : Int) + T).tmod k = (a : Int) := by
   rw [ha, show (p : Int) + T = ((p + T : Nat) : Int) from by omega]; rfl
 have q4 : IntKind.i64.wrap ((T : Int) * r) = ((T * r : Nat) : Int) := by rw [← Int.natCast_mul]; exact IntWalk.i64_in _ (by omega)
 have hb' : ((T * r : Nat) : Int) + (y : Int) = b := by omega
 have hTr : T * r ≤ 1000000000 := by omega
 have hyb : (y : Int) ≤ 1000000000 := by omega
 rw [← hb']
 clear hG hb' hb
 generalize T * r = tr at *
 rw [hrl]
 generalize rs.length = n at *
 refine calls_wcG (args := [.agg #[iv v, .slice A n c, iv t, iv s, iv k, iv r, iv n, .slice R n cR, O, iv h, iv cp], iv G, iv p]) [.cell 6 74] [] Tryz.func108 rfl Tryz.ntmps108 rfl rfl (H.refl _) ?_
 refine uS rfl fun K hK => ?_
 refine WL.want rfl (WL1.box rfl rfl (.mk (v := .agg _) rfl rfl) rfl (fun b3 => ?_))
 refine WL.want rfl (WL1.alloc rfl rfl rfl rfl (fun b6 => ?_))
 refine wN hK ?_; clear hK
 refine WC.seq fun K hK => ?_
 refine WC.quiet rfl (by kernel_rfl) (by decide +kernel) ?_
 refine ym rfl rfl ?_
 refine ya 6 rfl rfl rfl rfl ?_
 refine yl rfl rfl rfl (rd_pt (.tail _ (.head _)) rfl) ?_
 refine WQ.want rfl (WQ1.give rfl (g_quo rfl (.mk rfl rfl) (.mk rfl rfl) (by omega) q1) ?_)
 refine ym rfl rfl ?_
 refine ya 6 rfl rfl rfl rfl ?_
 refine yl rfl rfl rfl (rd_pt (.tail _ (.head _)) rfl) ?_
 refine WQ.want rfl (WQ1.give rfl (g_rem rfl (.mk rfl rfl) (.mk rfl rfl) (by omega) q2) ?_)
 iterate 2 refine ym rfl rfl ?_
 refine WQ.nil ?_
 (refine hK _ _ ?_; clear hK)
 refine uS rfl fun K hK => ?_
 iterate 2 refine jm rfl rfl ?_
 refine ji rfl rfl (by omega) ?_
 refine ja 4 rfl rfl rfl rfl ?_
 refine jl rfl rfl rfl (rd_pt (.tail _ (.head _)) rfl) ?_
 refine wG rfl rfl (g_rem rfl (.mk rfl rfl) (.mk rfl rfl) (by omega) q3) ?_
 refine jm rfl rfl ?_
 refine wN hK ?_; clear hK
 refine WC.seq fun K hK => ?_
 refine WC.untilL [24] rfl (by kernel_rfl) ?_
 refine uG 0 rfl (by decide +kernel) (.inr (iS (by repeat constructor))) rfl (Ga 0 rfl rfl rfl) ?_
 refine uG 1 rfl (by decide +kernel) (.inr (iS (by repeat constructor))) rfl (Ga 0 rfl rfl rfl) ?_
 refine uG 2 rfl (by decide +kernel) (.inr (iS (by repeat constructor))) rfl (Ga 1 rfl rfl rfl) ?_
 refine uB 3 rfl (by decide +kernel) (iS (by repeat constructor)) rfl (Gl rfl rfl (rd_pt (.tail _ (.head _)) rfl)) ?_
 refine uP 4 rfl (by decide +kernel) (.inr (iS (by repeat constructor))) rfl rfl ?_
 refine uG 5 rfl (by decide +kernel) (.inr (iS (by repeat constructor))) rfl ⟨rfl, g_indexAddr (sz := 1) rfl (.mk rfl rfl) (.mk rfl rfl) rfl rfl rfl (by omega) (fun _ _ => sl_some hm1 (by omega))⟩ ?_
 refine uB 6 rfl (by decide +kernel) (iS (by repeat constructor)) rfl (Gl rfl rfl (rd_sl hm1 i1)) ?_
 refine uP 7 rfl (by decide +kernel) (.inr (iS (by repeat constructor))) rfl rfl ?_
 refine uG 8 rfl (by decide +kernel) (.inr (iS (by repeat constructor))) rfl ⟨rfl, g_indexAddr (sz := 1) rfl (.mk rfl rfl) (.mk rfl rfl) rfl rfl rfl (by omega) (fun _ _ => sl_some s1 (by omega))⟩ ?_
 refine uB 9 rfl (by decide +kernel) (iS (by repeat constructor)) rfl (Gl rfl rfl (rd_sl s1 i3)) ?_
 refine uP 10 rfl (by decide +kernel) (.inr (iS (by repeat constructor))) rfl rfl ?_
 refine uG 11 rfl (by decide +kernel) (.inr (iS (by repeat constructor))) rfl (Ga 5 rfl rfl rfl) ?_
 refine uB 12 rfl (by decide +kernel) (iS (by repeat constructor)) rfl (Gl rfl rfl (rd_pt (.tail _ (.head _)) rfl)) ?_
 refine uG 13 rfl (by decide +kernel) (.inr (iS (by repeat constructor))) rfl ⟨rfl, g_mul rfl (.mk rfl rfl) (.mk rfl rfl) q4⟩ ?_
 refine uG 14 rfl (by decide +kernel) (.inr (iS (by repeat constructor))) rfl (Ga 7 rfl rfl rfl) ?_
 refine uB 15 rfl (by decide +kernel) (iS (by repeat constructor)) rfl (Gl rfl rfl (rd_pt (.tail _ (.head _)) rfl)) ?_
 refine uP 16 rfl (by decide +kernel) (.inr (iS (by repeat constructor))) rfl rfl ?_
 refine uG 17 rfl (by decide +kernel) (.inr (iS (by repeat constructor))) rfl ⟨rfl, g_indexAddr (sz := 1) rfl (.mk rfl rfl) (.mk rfl rfl) rfl rfl rfl (by omega) (fun _ _ => sl_some hm2 (by omega))⟩ ?_
 refine uB 18 rfl (by decide +kernel) (iS (by repeat constructor)) rfl (Gl rfl rfl (rd_sl hm2 i2)) ?_
 refine uP 19 rfl (by decide +kernel) (.inr (iS (by repeat constructor))) rfl rfl ?_
 refine uG 20 rfl (by decide +kernel) (.inr (iS (by repeat constructor))) rfl ⟨rfl, g_indexAddr (sz := 1) rfl (.mk rfl rfl) (.mk rfl rfl) rfl rfl rfl (by omega) (fun _ _ => sl_some s2 (by omega))⟩ ?_
 refine uB 21 rfl (by decide +kernel) (iS (by repeat constructor)) rfl (Gl rfl rfl (rd_sl s2 i4)) ?_
 refine uG 22 rfl (by decide +kernel) (.inr (iS (by repeat constructor))) rfl (Gi rfl (by omega)) ?_
 refine uG 23 rfl (by decide +kernel) (.inr (iS (by repeat constructor))) rfl ⟨rfl, g_build (cs := [_, _]) rfl rfl rfl rfl (.cons (.mk (v := .int _ _) rfl rfl) (.cons (.mk (v := .int _ _) rfl rfl) .nil)) rfl rfl rfl⟩ ?_
 refine WB.one 24 (by decide +kernel) rfl rfl ?_
 refine WL1.storeAll rfl rfl (.mk rfl rfl) (.mk rfl rfl) rfl (all1 rfl) (by first | rfl | (simp [Blk.len]; done)) (.head) ?_
 refine WL.nil ?_
 refine ⟨.inl (by decide +kernel), ?_⟩
 refine WB.done (by decide +kernel) ?_
 (refine hK _ _ ?_; clear hK)
 refine WC.ret ?_
 exact ⟨_, .cell rfl rfl rfl rfl (by repeat constructor) .nil, fun w' hw' => ⟨rfl, hw'.1⟩⟩
set_option maxHeartbeats 2000000 in
theorem nhas_e {v c t s k r h cp G p n : Nat} {A : Option Addr} {rs : List IRow} {R O : Value} (w : World) (hn : t * rs.length = n) (hG : G < n) (hp : p < k) (hk : k ≤ 100) (hb : n ≤ 4096) :
   Calls Tryz.prog 107 #[.agg (numC v A c rs t s k r R O h cp).toArray, iv G, iv p] w fun e w' => e = .returned (.bool true) ∧ Below w.heap.size w w' := by
 have hg := fun w => groups_m (v := v) (c := c) (t := t) (s := s) (k := k) (r := r) (h := h) (cp := cp) (A := A) (rs := rs) (R := R) (O := O) w (by omega)
 rw [hn] at hg
 refine calls_wc (args := [.agg (numC v A c rs t s k r R O h cp).toArray, iv G, iv p]) [6] [] Tryz.func107 rfl Tryz.ntmps107 rfl rfl rfl rfl (H.refl _) ?_
 refine uS rfl fun K hK => ?_
 refine WL.want rfl (WL1.box rfl rfl (.mk (v := .agg _) rfl rfl) rfl (fun b3 => ?_))
 refine jm rfl rfl ?_
 refine wN hK ?_; clear hK
 refine uS rfl fun K hK => ?_
 refine jm rfl rfl ?_
 refine jt rfl rfl (by omega) ?_
 refine jm rfl rfl ?_
 refine qm rfl rfl ?_
 refine qW rfl (WL1.give rfl (g_loadA rfl (.mk rfl rfl) rfl rfl (rdr_pt (cs := numC v A c rs t s k r R O h cp) (by repeat constructor) (fun j u h => by simpa using h))) ?_)
 refine qW rfl (WL1.callP rfl rfl rfl (.cons (.mk (v := .agg _) rfl rfl) .nil) (fun w hw => hg w) ?_)
 refine qt rfl rfl (by omega) ?_
 iterate 2 refine jm rfl rfl ?_
 refine qm rfl rfl ?_
 refine qt rfl rfl (by omega) ?_
 iterate 2 refine jm rfl rfl ?_
 refine qm rfl rfl ?_
 refine qa 4 rfl rfl rfl rfl ?_
 refine ql rfl rfl rfl (rd_pt (.head _) rfl) ?_
 refine qt rfl rfl (by omega) ?_
 iterate 2 refine jm rfl rfl ?_
 refine wN hK ?_; clear hK
 refine WC.ret ?_
 exact fun w' hw' => ⟨rfl, hw'.1⟩
section
variable {v k r lam t s : Nat} {A : Option Addr} {c : Nat} {rs : List IRow}
theorem rkF_le {gs : List (List Nat)} {g i : Nat} (h : ∀ j, j < g → (nth gs j).length = k) : rkF gs g i ≤ g * k + i := by
 unfold rkF
 have h1 := onP_len (gdP gs g ++ ((nth gs g).take i).map fun d => (g, d)) (nth (nth gs g) i)
 rw [List.length_append, gdP_len g h, List.length_map, List.length_take] at h1
 omega
set_option maxHeartbeats 2000000 in
theorem lhome_e {T g0 p G : Nat} (w : World) (hy : Lay v k r lam (ils rs) t s) (hm : IMat w (.slice A rs.length c) rs) (hG : G = T * rs.length + g0) (hg0 : g0 < rs.length) (hT : T < t) (hp : p < k) :
   Calls Tryz.prog 62 #[layV v A c rs t s, iv G, iv p] w fun e w' => e = .returned (.tuple #[.agg #[iv (nth (nth (ils rs) g0) ((p + T) % k) : Nat), iv (T * r + rkF (ils rs) g0 ((p + T) % k) : Nat)], iv 0]) ∧ Below w.heap.size w w' := by
 have hil : (ils rs).length = rs.length := List.length_map _
 have hk4 := hy.k4
 have hk16 := hy.k16
 have ht := hy.t256
 have hcap := hy.cap
 have hgr := hy.grp'
 have hn : rs.length ≤ 4096 := hy.d.cnt.2
 have hl : (nth (ils rs) g0).length = k := hy.d.len g0 (by omega)
 have hGn : G < t * rs.length := by
   have : (T + 1) * rs.length ≤ t * rs.length := Nat.mul_le_mul_right _ hT
   rw [Nat.succ_mul] at this
   omega
 have hTr : T * r ≤ 65536 := by
   have : T * r ≤ t * r := Nat.mul_le_mul_right _ (by omega)
   omega
 have hr : r ≤ 100000 := by
   have : 1 * r ≤ t * r := Nat.mul_le_mul_right _ hy.t1
   omega
 have hak : (p + T) % k < k := Nat.mod_lt _ (by omega)
 have hrk1 : rkF (ils rs) g0 ((p + T) % k) ≤ g0 * k + k := by
   have := rkF_le (i := (p + T) % k) (fun j hj => hy.d.len j (by omega) : ∀ j, j < g0 → (nth (ils rs) j).length = k)
   omega
 have hgk : g0 * k ≤ 4096 * 16 := Nat.mul_le_mul (by omega) hk16
 have hho : ∀ (w : World) (R O : Option Addr) (cR nO cO : Nat) (rk : List IRow), IMat w (.slice A rs.length c) rs → IMat w (.slice R rk.length cR) rk → ils rk = (List.range rs.length).map (rkL (ils rs)) → Calls Tryz.prog 108 #[.agg (numC v A c rs t s k r (.slice R rk.length cR) (.slice O nO cO) (t * r) (t * r + s)).toArray, iv G, iv p] w fun e w' => e = .returned (.agg #[iv (nth (nth (ils rs) g0) ((p + T) % k) : Nat), iv (T * r + rkF (ils rs) g0 ((p + T) % k) : Nat)]) ∧ Below w.heap.size w w' := fun w R O cR nO cO rk h1 h2 h3 => nhome_e (v := v) (t := t) (s := s) (h := t * r) (cp := t * r + s) (O := .slice O nO cO) w h1 h2 hG hg0 (by have := congrArg List.length h3; simpa using this) hl (by rw [h3, nth_range _ hg0]; show ((List.range _).map _).length = k; rw [List.length_map, List.length_range, hl]) rfl rfl (b := T * r + rkF (ils rs) g0 ((p + T) % k)) (by rw [h3, nth_range _ hg0]; show T * r + nth ((List.range _).map _) _ = _; rw [nth_range _ (by rw [hl]; exact hak)]) (by omega) hr (by omega) (by omega) (by omega) hn
 have hhas := fun {R O : Value} (w : World) => nhas_e (v := v) (c := c) (s := s) (r := r) (h := t * r) (cp := t * r + s) (A := A) (R := R) (O := O) w rfl hGn hp (by omega) hgr
 generalize nth (nth (ils rs) g0) ((p + T) % k) = dk at *
 generalize T * r + rkF (ils rs) g0 ((p + T) % k) = bb at *
 have hms : ∀ w, IMat w (.slice A rs.length c) rs → Calls Tryz.prog 60 #[layV v A c rs t s] w fun e w' => ∃ u M, e = .returned u ∧ H w M w' ∧ ∃ R cR rk O nO cO, ils rk = (List.range rs.length).map (rkL (ils rs)) ∧ u = .tuple #[.agg (numC v A c rs t s k r (.slice R rk.length cR) (.slice O nO cO) (t * r) (t * r + s)).toArray, .bool true] ∧ M = [vec R rk.length cR 29 1 (rk.map IRow.v), rowsI rk] := fun w hm => (measure_n w hy hm).mono fun e w' ⟨u, M, h1, h2, R, cR, O, cO, rk, on, h3, h4, h5, h6⟩ => ⟨u, [vec R rk.length cR 29 1 (rk.map IRow.v), rowsI rk], h1, (by subst h6; exact h2.sub (.cons_cons _ (.cons_cons _ (List.nil_sublist _)))), R, cR, rk, O, on.length, cO, h3, h5, rfl⟩
 refine calls_wcG (args := [layV v A c rs t s, iv G, iv p]) [.cell 6 74, .tmp 7] [] Tryz.func62 rfl Tryz.ntmps62 rfl rfl (H.refl _) ?_
 refine uS rfl fun K hK => ?_
 refine WL.want rfl (WL1.box rfl rfl (.mk (v := .agg _) rfl rfl) rfl (fun b3 => ?_))
 refine WL.want rfl (WL1.alloc rfl rfl rfl rfl (fun b6 => ?_))
 refine jm rfl rfl ?_
 refine wN hK ?_; clear hK
 refine uS rfl fun K hK => ?_
 refine wG rfl rfl (g_loadA rfl (.mk rfl rfl) rfl rfl (rdr_pt (.tail _ (.head _)) (fun j u h => by simpa using h))) ?_
 (refine WL.want rfl (WL1.callN rfl rfl rfl (.cons (.mk (v := .agg _) rfl rfl) .nil) (fun w hw => hms w (hm.below hw.1)) ?_); rintro _ _ ⟨R, cR, rk, O, nO, cO, hrk, rfl, rfl⟩)
 iterate 3 refine jm rfl rfl ?_
 refine WL.want rfl (WL1.alloc rfl rfl rfl rfl (fun b8 => ?_))
 refine WL.want rfl (WL1.storeAll rfl rfl (.mk rfl rfl) (.mk rfl rfl) rfl (all1 rfl) (by first | rfl | (simp [Blk.len]; done)) (.head) ?_)
 refine jm rfl rfl ?_
 refine wN hK ?_; clear hK
 refine WC.seq fun K hK => ?_
 refine WC.block ?_
 refine uS rfl fun K hK => ?_
 iterate 3 refine jm rfl rfl ?_
 refine wN hK ?_; clear hK
 refine uF rfl rfl ?_
 refine uS rfl fun K hK => ?_
 refine wG rfl rfl (g_loadA rfl (.mk rfl rfl) rfl rfl (rdr_pt (.head _) (fun j u h => by simpa using h))) ?_
 iterate 2 refine jm rfl rfl ?_
 refine WL.want rfl (WL1.callP rfl rfl rfl (.cons (.mk (v := .agg _) rfl rfl) (.cons (.mk (v := .int _ _) rfl rfl) (.cons (.mk (v := .int _ _) rfl rfl) .nil))) (fun w hw => hhas w) ?_)
 iterate 2 refine jm rfl rfl ?_
 refine wN hK ?_; clear hK
 refine uF rfl rfl ?_
 refine WC.skip ?_
 (refine hK _ _ ?_; clear hK)
 refine uS rfl fun K hK => ?_
 refine wG rfl rfl (g_loadA rfl (.mk rfl rfl) rfl rfl (rdr_pt (.head _) (fun j u h => by simpa using h))) ?_
 iterate 2 refine jm rfl rfl ?_
 refine WL.want rfl (WL1.callP rfl rfl rfl (.cons (.mk (v := .agg _) rfl rfl) (.cons (.mk (v := .int _ _) rfl rfl) (.cons (.mk (v := .int _ _) rfl rfl) .nil))) (fun w hw => hho w R O cR nO cO rk (hm.below hw.1) (IMat.of_rows hw (by repeat constructor) (by repeat constructor) rfl) hrk) ?_)
 refine WL.want rfl (WL1.storeAll rfl rfl (.mk rfl rfl) (.mk rfl rfl) rfl (all1 rfl) (by first | rfl | (simp [Blk.len]; done)) (.tail (.tail (.tail (.head)))) ?_)
 refine jm rfl rfl ?_
 refine wN hK ?_; clear hK
 refine WC.ret ?_
 exact ⟨_, .cell rfl rfl rfl rfl (by repeat constructor) (.tmp rfl rfl .nil), fun w' hw' => ⟨rfl, hw'.1⟩⟩
end
def fxI (l : List Nat) (x : Nat) : Nat → Int
 | 0 => -1
 | d + 1 => if nth l (l.length - (d + 1)) = x then ((l.length - (d + 1) : Nat) : Int) else fxI l x d
theorem fxI_le (l : List Nat) (x : Nat) : ∀ d, d ≤ l.length → -1 ≤ fxI l x d ∧ fxI l x d ≤ l.length
 | 0, _ => by unfold fxI; omega
 | d + 1, h => by
   have := fxI_le l x d (by omega)
   unfold fxI
   split <;> omega
theorem fxI_cnt (l : List Nat) (x : Nat) : ∀ d, d ≤ l.length → (0 ≤ fxI l x d ↔ cntN (l.drop (l.length - d)) x ≠ 0)
 | 0, _ => by
   rw [Nat.sub_zero, List.drop_length]
   unfold fxI cntN
   omega
 | d + 1, h => by
   have ih := fxI_cnt l x d (by omega)
   have hlt : l.length - (d + 1) < l.length := by omega
   rw [List.drop_eq_getElem_cons hlt, show l.length - (d + 1) + 1 = l.length - d from by omega, ← nth_eq hlt]
   unfold fxI
   rw [cntN]
   by_cases e : nth l (l.length - (d + 1)) = x
   · rw [if_pos e, e]
     have : Nat.beq x x = true := Nat.beq_refl x
     rw [this]
     show _ ↔ 1 + _ ≠ 0
     omega
   · rw [if_neg e]
     have : Nat.beq (nth l (l.length - (d + 1))) x = false := by rw [Bool.eq_false_iff]; intro h'; exact e (Nat.eq_of_beq_eq_true h')
     rw [this]
     show _ ↔ 0 + _ ≠ 0
     rw [Nat.zero_add]
     exact ih
set_option maxHeartbeats 1000000 in
theorem cindex_e {w : World} {A : Option Addr} {c n : Nat} {l : List Nat} (x : Nat) (hn : l.length = n) (hn2 : n ≤ 1000) (hv : Sl w 1 (.slice A n c) n (ldv l)) : Calls Tryz.prog 145 #[.slice A n c, iv x] w fun e w' => e = .returned (iv (fxI l x n)) ∧ Below w.heap.size w w' := by
 subst hn
 refine calls_wc (args := [.slice A l.length c, iv x]) [4] [] Tryz.func145 rfl Tryz.ntmps145 rfl rfl rfl rfl (H.refl _) ?_
 refine uS rfl fun K hK => ?_
 refine jm rfl rfl ?_
 refine wN hK ?_; clear hK
 refine WC.seq fun K hK => ?_
 refine uS rfl fun K hK => ?_
 refine jm rfl rfl ?_
 refine jn rfl rfl rfl ?_
 refine jm rfl rfl ?_
 refine wN hK ?_; clear hK
 refine WC.block ?_
 refine WC.loop (524080) (fun k : Nat => [(8, iv k)]) (fun _ => []) (fun k => k ≤ l.length ∧ fxI l x l.length = fxI l x (l.length - k)) (fun k => l.length - k) 0 ⟨rfl, trivial⟩ (.refl _) ⟨by omega, rfl⟩ ?_
 rintro k U ⟨hk, hq⟩
 by_cases hlt : k < l.length
 · have hg := ldv_get (ld := l) hlt
   have hst : fxI l x (l.length - k) = if nth l k = x then (k : Int) else fxI l x (l.length - (k + 1)) := by
     rw [show l.length - k = (l.length - (k + 1)) + 1 from by omega, fxI, show l.length - (l.length - (k + 1) + 1) = k from by omega]
   by_cases h0 : nth l k = x
   · rw [if_pos h0] at hst
     rw [h0] at hg
     rw [hq, hst]
     refine uS rfl fun K hK => ?_
     refine jt rfl rfl (by omega) ?_
     refine wN hK ?_; clear hK
     refine WC.seq fun K hK => ?_
     refine uT rfl rfl ?_
     refine WC.skip ?_
     (refine hK _ _ ?_; clear hK)
     refine WC.seq fun K hK => ?_
     refine WC.block ?_
     refine uS rfl fun K hK => ?_
     iterate 2 refine jm rfl rfl ?_
     refine wN hK ?_; clear hK
     refine uS rfl fun K hK => ?_
     iterate 3 refine jm rfl rfl ?_
     refine wG rfl rfl (g_indexAddr (sz := 1) rfl (.mk rfl rfl) (.mk rfl rfl) rfl rfl rfl (by omega) (fun _ _ => sl_some hv (by omega))) ?_
     refine jl rfl rfl rfl (rd_sl hv hg) ?_
     refine jt rfl rfl (by omega) ?_
     refine wN hK ?_; clear hK
     refine uT rfl rfl ?_
     refine uS rfl fun K hK => ?_
     iterate 2 refine jm rfl rfl ?_
     refine wN hK ?_; clear hK
     refine WC.ret ?_
     exact fun w' hw' => ⟨rfl, hw'.1⟩
   · rw [if_neg h0] at hst
     generalize nth l k = z at *
     refine uS rfl fun K hK => ?_
     refine jt rfl rfl (by omega) ?_
     refine wN hK ?_; clear hK
     refine WC.seq fun K hK => ?_
     refine uT rfl rfl ?_
     refine WC.skip ?_
     (refine hK _ _ ?_; clear hK)
     refine WC.seq fun K hK => ?_
     refine WC.block ?_
     refine uS rfl fun K hK => ?_
     iterate 2 refine jm rfl rfl ?_
     refine wN hK ?_; clear hK
     refine uS rfl fun K hK => ?_
     iterate 3 refine jm rfl rfl ?_
     refine wG rfl rfl (g_indexAddr (sz := 1) rfl (.mk rfl rfl) (.mk rfl rfl) rfl rfl rfl (by omega) (fun _ _ => sl_some hv (by omega))) ?_
     refine jl rfl rfl rfl (rd_sl hv hg) ?_
     refine jf rfl rfl (by omega) ?_
     refine wN hK ?_; clear hK
     refine uF rfl rfl ?_
     refine WC.skip ?_
     (refine hK _ _ ?_; clear hK)
     refine WC.region rfl ?_
     refine ji rfl rfl (by omega) ?_
     refine jm rfl rfl ?_
     refine WL.nil ?_
     exact ⟨k + 1, (by repeat (first | with_reducible exact .refl _ _ | refine .set rfl ?_ | refine .put rfl ?_ | refine .sets rfl ?_ | refine .hav rfl ?_ | exact .refl _ _)), ⟨rfl, trivial⟩, .refl _, ⟨by omega, hq.trans hst⟩, by omega⟩
 · obtain rfl : k = l.length := by omega
   rw [Nat.sub_self] at hq
   refine uS rfl fun K hK => ?_
   refine jf rfl rfl (by omega) ?_
   refine wN hK ?_; clear hK
   refine WC.seq fun K hK => ?_
   refine uF rfl rfl ?_
   refine WC.exit ?_
   (clear hK; refine hK _ _ ?_; clear hK)
   refine uS rfl fun K hK => ?_
   refine jm rfl rfl ?_
   refine wN hK ?_; clear hK
   refine WC.ret ?_
   exact fun w' hw' => ⟨by rw [hq]; rfl, hw'.1⟩
theorem contains_e {w : World} {A : Option Addr} {c n : Nat} {l : List Nat} (x : Nat) (hn : l.length = n) (hn2 : n ≤ 1000) (hv : Sl w 1 (.slice A n c) n (ldv l)) : Calls Tryz.prog 98 #[.slice A n c, iv x] w fun e w' => e = .returned (.bool (decide (cntN l x ≠ 0))) ∧ Below w.heap.size w w' := by
 have hix := fun w' (hb : Below w.heap.size w w') => cindex_e x hn hn2 (hv.below hb)
 have hle := fxI_le l x n (by omega)
 have hct := fxI_cnt l x n (by omega)
 rw [hn, Nat.sub_self, List.drop_zero] at hct
 generalize fxI l x n = z at *
 by_cases h : cntN l x ≠ 0
 · rw [decide_eq_true h]
   have hz := hct.2 h
   clear hct h
   refine calls_wc (args := [.slice A n c, iv x]) [4] [] Tryz.func98 rfl Tryz.ntmps98 rfl rfl rfl rfl (H.refl _) ?_
   refine uS rfl fun K hK => ?_
   refine jm rfl rfl ?_
   refine wN hK ?_; clear hK
   refine uS rfl fun K hK => ?_
   iterate 2 refine jm rfl rfl ?_
   refine WL.want rfl (WL1.callP rfl rfl rfl (.cons (.mk (v := .slice _ _ _) rfl rfl) (.cons (.mk (v := .int _ _) rfl rfl) .nil)) (fun w hw => hix w hw.1) ?_)
   refine jt rfl rfl (by omega) ?_
   refine jm rfl rfl ?_
   refine wN hK ?_; clear hK
   refine WC.ret ?_
   exact fun w' hw' => ⟨rfl, hw'.1⟩
 · rw [decide_eq_false h]
   have hz : ¬ 0 ≤ z := fun h' => h (hct.1 h')
   clear hct h
   refine calls_wc (args := [.slice A n c, iv x]) [4] [] Tryz.func98 rfl Tryz.ntmps98 rfl rfl rfl rfl (H.refl _) ?_
   refine uS rfl fun K hK => ?_
   refine jm rfl rfl ?_
   refine wN hK ?_; clear hK
   refine uS rfl fun K hK => ?_
   iterate 2 refine jm rfl rfl ?_
   refine WL.want rfl (WL1.callP rfl rfl rfl (.cons (.mk (v := .slice _ _ _) rfl rfl) (.cons (.mk (v := .int _ _) rfl rfl) .nil)) (fun w hw => hix w hw.1) ?_)
   refine jf rfl rfl (by omega) ?_
   refine jm rfl rfl ?_
   refine wN hK ?_; clear hK
   refine WC.ret ?_
   exact fun w' hw' => ⟨rfl, hw'.1⟩
section
variable {P : Program} {n : Fr} {w0 : World} {ops : Array Oper} {K : Post} {o : Oper} {rest : List Oper} {E : Env} {L : List Asrt}
theorem WQ1.callVP {x : Operand} {args : List Operand} {ts : Array TypeId} {d : Nat} {f : FuncId} {cap vals : List Value} {v : Value} (ho : o.op = .call { callee := .value x, args := args.toArray, argTypes := ts }) (hd : o.dst = some d) (hx : Ev n E x (.func (.func f) #[] cap.toArray)) (hc : callable P f = true) (hv : Evs n E args vals)
   (h : ∀ w, H w0 L w → Calls P f (vals ++ cap).toArray w fun e w' => e = .returned v ∧ Below w.heap.size w w') (k : WQ P n w0 ops K rest (E.set d v) L) : WQ1 P n w0 ops K o rest E L := fun Q hQ K' hK => by
 refine ⟨v, fun w hw => ?_, ?_⟩
 · unfold Oper.quietAt
   rw [run_callV ho hc hx hv]
   exact ⟨rfl, (h w hw).mono fun _ _ ⟨he, hb⟩ => ⟨he, hw.below hb⟩⟩
 · rw [actOf_put, hd]
   exact hK _ (k Q hQ)
end
structure Mv where
 g : Nat
 p : Nat
 d : Nat
 b : Nat
deriving DecidableEq
instance : Inhabited Mv := ⟨⟨0, 0, 0, 0⟩⟩
def Mv.cells (m : Mv) : List Value := [iv m.g, iv m.p, iv m.d, iv m.b]
abbrev mvs (l : List Mv) : List Value := l.flatMap Mv.cells
abbrev mvV (m : Mv) : Value := .agg #[iv m.g, iv m.p, iv m.d, iv m.b]
abbrev meV (g p : Nat) : Value := .agg #[iv g, iv p]
abbrev MVT : TypeId := 81
abbrev MET : TypeId := 126
theorem mv4 {l : List Mv} : ∀ m ∈ l, (Mv.cells m).length = 4 := fun _ _ => rfl
theorem Mv.one (m : Mv) : ∀ u ∈ m.cells, u.oneCell' = true := by
 intro u hu
 simp only [Mv.cells, List.mem_cons, List.not_mem_nil, or_false] at hu
 rcases hu with rfl | rfl | rfl | rfl <;> rfl
theorem mvs_one (l : List Mv) : ∀ u ∈ mvs l, u.oneCell' = true := by
 intro u hu
 obtain ⟨m, _, h⟩ := List.mem_flatMap.1 hu
 exact m.one u h
theorem mvs_row {l : List Mv} {k : Nat} (h : k < l.length) : ∀ j u, (nth l k).cells[j]? = some u → (mvs l)[k * 4 + j]? = some u := flat_row mv4 h
theorem mvs_snoc (l : List Mv) (m : Mv) : mvs l ++ m.cells = mvs (l ++ [m]) := by unfold mvs; rw [List.flatMap_append]; simp
def cmpN (x y : Nat) : Int := if x < y then -1 else if y < x then 1 else 0
theorem isnan_e (x : Nat) (w : World) : Calls Tryz.prog 121 #[iv x] w fun e w' => e = .returned (.bool false) ∧ Below w.heap.size w w' := by
 refine calls_wc (args := [iv x]) [2] [] Tryz.func121 rfl Tryz.ntmps121 rfl rfl rfl rfl (H.refl _) ?_
 refine uS rfl fun K hK => ?_
 refine jm rfl rfl ?_
 refine wN hK ?_; clear hK
 refine uS rfl fun K hK => ?_
 iterate 2 refine jm rfl rfl ?_
 refine jf rfl rfl (by omega) ?_
 refine jm rfl rfl ?_
 refine wN hK ?_; clear hK
 refine WC.ret ?_
 exact fun w' hw' => ⟨rfl, hw'.1⟩
theorem compare_e (x y : Nat) (w : World) : Calls Tryz.prog 76 #[iv x, iv y] w fun e w' => e = .returned (iv (cmpN x y)) ∧ Below w.heap.size w w' := by
 unfold cmpN
 by_cases h1 : x < y
 · rw [if_pos h1]
   refine calls_wc (args := [iv x, iv y]) [4] [] Tryz.func76 rfl Tryz.ntmps76 rfl rfl rfl rfl (H.refl _) ?_
   refine uS rfl fun K hK => ?_
   refine jm rfl rfl ?_
   refine wN hK ?_; clear hK
   refine uS rfl fun K hK => ?_
   refine jm rfl rfl ?_
   refine WL.want rfl (WL1.callP rfl rfl rfl (.cons (.mk (v := .int _ _) rfl rfl) .nil) (fun w hw => isnan_e x w) ?_)
   refine jm rfl rfl ?_
   refine wN hK ?_; clear hK
   refine uS rfl fun K hK => ?_
   refine jm rfl rfl ?_
   refine WL.want rfl (WL1.callP rfl rfl rfl (.cons (.mk (v := .int _ _) rfl rfl) .nil) (fun w hw => isnan_e y w) ?_)
   refine jm rfl rfl ?_
   refine wN hK ?_; clear hK
   refine WC.seq fun K hK => ?_
   refine uS rfl fun K hK => ?_
   refine jm rfl rfl ?_
   refine wN hK ?_; clear hK
   refine uF rfl rfl ?_
   refine WC.skip ?_
   (refine hK _ _ ?_; clear hK)
   refine WC.seq fun K hK => ?_
   refine uS rfl fun K hK => ?_
   refine jm rfl rfl ?_
   refine wN hK ?_; clear hK
   refine uF rfl rfl ?_
   refine WC.skip ?_
   (refine hK _ _ ?_; clear hK)
   refine WC.seq fun K hK => ?_
   refine uS rfl fun K hK => ?_
   iterate 2 refine jm rfl rfl ?_
   refine jt rfl rfl (by omega) ?_
   refine wN hK ?_; clear hK
   refine uT rfl rfl ?_
   refine uS rfl fun K hK => ?_
   refine jm rfl rfl ?_
   refine wN hK ?_; clear hK
   refine WC.ret ?_
   exact fun w' hw' => ⟨rfl, hw'.1⟩
 rw [if_neg h1]
 by_cases h2 : y < x
 · rw [if_pos h2]
   refine calls_wc (args := [iv x, iv y]) [4] [] Tryz.func76 rfl Tryz.ntmps76 rfl rfl rfl rfl (H.refl _) ?_
   refine uS rfl fun K hK => ?_
   refine jm rfl rfl ?_
   refine wN hK ?_; clear hK
   refine uS rfl fun K hK => ?_
   refine jm rfl rfl ?_
   refine WL.want rfl (WL1.callP rfl rfl rfl (.cons (.mk (v := .int _ _) rfl rfl) .nil) (fun w hw => isnan_e x w) ?_)
   refine jm rfl rfl ?_
   refine wN hK ?_; clear hK
   refine uS rfl fun K hK => ?_
   refine jm rfl rfl ?_
   refine WL.want rfl (WL1.callP rfl rfl rfl (.cons (.mk (v := .int _ _) rfl rfl) .nil) (fun w hw => isnan_e y w) ?_)
   refine jm rfl rfl ?_
   refine wN hK ?_; clear hK
   refine WC.seq fun K hK => ?_
   refine uS rfl fun K hK => ?_
   refine jm rfl rfl ?_
   refine wN hK ?_; clear hK
   refine uF rfl rfl ?_
   refine WC.skip ?_
   (refine hK _ _ ?_; clear hK)
   refine WC.seq fun K hK => ?_
   refine uS rfl fun K hK => ?_
   refine jm rfl rfl ?_
   refine wN hK ?_; clear hK
   refine uF rfl rfl ?_
   refine WC.skip ?_
   (refine hK _ _ ?_; clear hK)
   refine WC.seq fun K hK => ?_
   refine uS rfl fun K hK => ?_
   iterate 2 refine jm rfl rfl ?_
   refine jf rfl rfl (by omega) ?_
   refine wN hK ?_; clear hK
   refine uF rfl rfl ?_
   refine WC.skip ?_
   (refine hK _ _ ?_; clear hK)
   refine WC.seq fun K hK => ?_
   refine uS rfl fun K hK => ?_
   iterate 2 refine jm rfl rfl ?_
   refine jt rfl rfl (by omega) ?_
   refine wN hK ?_; clear hK
   refine uT rfl rfl ?_
   refine uS rfl fun K hK => ?_
   refine jm rfl rfl ?_
   refine wN hK ?_; clear hK
   refine WC.ret ?_
   exact fun w' hw' => ⟨rfl, hw'.1⟩
 · rw [if_neg h2]
   refine calls_wc (args := [iv x, iv y]) [4] [] Tryz.func76 rfl Tryz.ntmps76 rfl rfl rfl rfl (H.refl _) ?_
   refine uS rfl fun K hK => ?_
   refine jm rfl rfl ?_
   refine wN hK ?_; clear hK
   refine uS rfl fun K hK => ?_
   refine jm rfl rfl ?_
   refine WL.want rfl (WL1.callP rfl rfl rfl (.cons (.mk (v := .int _ _) rfl rfl) .nil) (fun w hw => isnan_e x w) ?_)
   refine jm rfl rfl ?_
   refine wN hK ?_; clear hK
   refine uS rfl fun K hK => ?_
   refine jm rfl rfl ?_
   refine WL.want rfl (WL1.callP rfl rfl rfl (.cons (.mk (v := .int _ _) rfl rfl) .nil) (fun w hw => isnan_e y w) ?_)
   refine jm rfl rfl ?_
   refine wN hK ?_; clear hK
   refine WC.seq fun K hK => ?_
   refine uS rfl fun K hK => ?_
   refine jm rfl rfl ?_
   refine wN hK ?_; clear hK
   refine uF rfl rfl ?_
   refine WC.skip ?_
   (refine hK _ _ ?_; clear hK)
   refine WC.seq fun K hK => ?_
   refine uS rfl fun K hK => ?_
   refine jm rfl rfl ?_
   refine wN hK ?_; clear hK
   refine uF rfl rfl ?_
   refine WC.skip ?_
   (refine hK _ _ ?_; clear hK)
   refine WC.seq fun K hK => ?_
   refine uS rfl fun K hK => ?_
   iterate 2 refine jm rfl rfl ?_
   refine jf rfl rfl (by omega) ?_
   refine wN hK ?_; clear hK
   refine uF rfl rfl ?_
   refine WC.skip ?_
   (refine hK _ _ ?_; clear hK)
   refine WC.seq fun K hK => ?_
   refine uS rfl fun K hK => ?_
   iterate 2 refine jm rfl rfl ?_
   refine jf rfl rfl (by omega) ?_
   refine wN hK ?_; clear hK
   refine uF rfl rfl ?_
   refine WC.skip ?_
   (refine hK _ _ ?_; clear hK)
   refine uS rfl fun K hK => ?_
   refine jm rfl rfl ?_
   refine wN hK ?_; clear hK
   refine WC.ret ?_
   exact fun w' hw' => ⟨rfl, hw'.1⟩
theorem cmpN_bd (x y : Nat) : -1 ≤ cmpN x y ∧ cmpN x y ≤ 1 := by unfold cmpN; split <;> (try split) <;> omega
theorem cmpor_e {v : Value} (a b : Int) (w : World) (hv : Sl w 1 v 2 [iv a, iv b]) : Calls Tryz.prog 109 #[v] w fun e w' => e = .returned (iv (if a = 0 then b else a)) ∧ Below w.heap.size w w' := by
 obtain ⟨A, c, rfl, _, _, hs⟩ := hv.open_
 have g0 : [iv a, iv b][0 * 1]? = some (iv a) := rfl
 have g1 : [iv a, iv b][1 * 1]? = some (iv b) := rfl
 by_cases h : a = 0
 · rw [if_pos h]
   subst h
   by_cases hb : b = 0
   · subst hb
     refine calls_wc (args := [.slice A 2 c]) [2] [] Tryz.func109 rfl Tryz.ntmps109 rfl rfl rfl rfl (H.refl _) ?_
     refine uS rfl fun K hK => ?_
     refine jm rfl rfl ?_
     refine wN hK ?_; clear hK
     refine uS rfl fun K hK => ?_
     refine jm rfl rfl ?_
     refine wN hK ?_; clear hK
     refine WC.seq fun K hK => ?_
     refine uS rfl fun K hK => ?_
     refine jm rfl rfl ?_
     refine jn rfl rfl rfl ?_
     refine jm rfl rfl ?_
     refine wN hK ?_; clear hK
     refine WC.block ?_
     refine WC.loopF (fun i : Nat => [(8, iv i), (7, iv 2), (6, .slice A 2 c), (3, iv 0)]) (fun _ => []) (fun i => i ≤ 2) (fun i => 2 - i) 0 (by repeat (first | exact trivial | refine ⟨rfl, ?_⟩)) (Imp.nil _) (by omega) ?_
     intro i U hi
     by_cases hlt : i < 2
     · have gi : [iv 0, iv 0][i * 1]? = some (iv 0) := by
         match i, hlt with
         | 0, _ => rfl
         | 1, _ => rfl
       refine uS rfl fun K hK => ?_
       refine jt rfl rfl (by omega) ?_
       refine wN hK ?_; clear hK
       refine WC.seq fun K hK => ?_
       refine uT rfl rfl ?_
       refine WC.skip ?_
       (refine hK _ _ ?_; clear hK)
       refine WC.seq fun K hK => ?_
       refine WC.block ?_
       refine uS rfl fun K hK => ?_
       refine wG rfl rfl (g_indexAddr (sz := 1) rfl (.mk rfl rfl) (.mk rfl rfl) rfl rfl rfl (by omega) (fun _ _ => sl_some hs (by omega))) ?_
       refine jl rfl rfl rfl (rd_sl hs gi) ?_
       refine jm rfl rfl ?_
       refine wN hK ?_; clear hK
       refine uS rfl fun K hK => ?_
       iterate 2 refine jm rfl rfl ?_
       refine jf rfl rfl (by omega) ?_
       refine wN hK ?_; clear hK
       refine uF rfl rfl ?_
       refine WC.skip ?_
       (refine hK _ _ ?_; clear hK)
       refine WC.region rfl ?_
       refine ji rfl rfl (by omega) ?_
       refine jm rfl rfl ?_
       refine WL.nil ?_
       exact ⟨i + 1, (by repeat (first | exact trivial | refine ⟨rfl, ?_⟩)), Imp.nil _, by omega, by omega⟩
     · obtain rfl : i = 2 := by omega
       refine uS rfl fun K hK => ?_
       refine jf rfl rfl (by omega) ?_
       refine wN hK ?_; clear hK
       refine WC.seq fun K hK => ?_
       refine uF rfl rfl ?_
       refine WC.exit ?_
       (clear hK; refine hK _ _ ?_; clear hK)
       refine uS rfl fun K hK => ?_
       iterate 2 refine jm rfl rfl ?_
       refine wN hK ?_; clear hK
       refine WC.ret ?_
       exact fun w' hw' => ⟨rfl, hw'.1⟩
   · refine calls_wc (args := [.slice A 2 c]) [2] [] Tryz.func109 rfl Tryz.ntmps109 rfl rfl rfl rfl (H.refl _) ?_
     refine uS rfl fun K hK => ?_
     refine jm rfl rfl ?_
     refine wN hK ?_; clear hK
     refine uS rfl fun K hK => ?_
     refine jm rfl rfl ?_
     refine wN hK ?_; clear hK
     refine WC.seq fun K hK => ?_
     refine uS rfl fun K hK => ?_
     refine jm rfl rfl ?_
     refine jn rfl rfl rfl ?_
     refine jm rfl rfl ?_
     refine wN hK ?_; clear hK
     refine WC.block ?_
     refine WC.loopF (fun i : Nat => [(8, iv i), (7, iv 2), (6, .slice A 2 c), (3, iv 0)]) (fun _ => []) (fun i => i ≤ 1) (fun i => 2 - i) 0 (by repeat (first | exact trivial | refine ⟨rfl, ?_⟩)) (Imp.nil _) (by omega) ?_
     intro i U hi
     by_cases hlt : i = 0
     · subst hlt
       refine uS rfl fun K hK => ?_
       refine jt rfl rfl (by omega) ?_
       refine wN hK ?_; clear hK
       refine WC.seq fun K hK => ?_
       refine uT rfl rfl ?_
       refine WC.skip ?_
       (refine hK _ _ ?_; clear hK)
       refine WC.seq fun K hK => ?_
       refine WC.block ?_
       refine uS rfl fun K hK => ?_
       refine wG rfl rfl (g_indexAddr (sz := 1) rfl (.mk rfl rfl) (.mk rfl rfl) rfl rfl (show _ = ((0 : Nat) : Int) from rfl) (by omega) (fun _ _ => sl_some hs (by omega))) ?_
       refine jl rfl rfl rfl (rd_sl hs g0) ?_
       refine jm rfl rfl ?_
       refine wN hK ?_; clear hK
       refine uS rfl fun K hK => ?_
       iterate 2 refine jm rfl rfl ?_
       refine jf rfl rfl (by omega) ?_
       refine wN hK ?_; clear hK
       refine uF rfl rfl ?_
       refine WC.skip ?_
       (refine hK _ _ ?_; clear hK)
       refine WC.region rfl ?_
       refine ji rfl rfl (by omega) ?_
       refine jm rfl rfl ?_
       refine WL.nil ?_
       exact ⟨0 + 1, (by repeat (first | exact trivial | refine ⟨rfl, ?_⟩)), Imp.nil _, by omega, by omega⟩
     · obtain rfl : i = 1 := by omega
       refine uS rfl fun K hK => ?_
       refine jt rfl rfl (by omega) ?_
       refine wN hK ?_; clear hK
       refine WC.seq fun K hK => ?_
       refine uT rfl rfl ?_
       refine WC.skip ?_
       (refine hK _ _ ?_; clear hK)
       refine WC.seq fun K hK => ?_
       refine WC.block ?_
       refine uS rfl fun K hK => ?_
       refine wG rfl rfl (g_indexAddr (sz := 1) rfl (.mk rfl rfl) (.mk rfl rfl) rfl rfl (show _ = ((1 : Nat) : Int) from rfl) (by omega) (fun _ _ => sl_some hs (by omega))) ?_
       refine jl rfl rfl rfl (rd_sl hs g1) ?_
       refine jm rfl rfl ?_
       refine wN hK ?_; clear hK
       refine uS rfl fun K hK => ?_
       iterate 2 refine jm rfl rfl ?_
       refine jt rfl rfl (by omega) ?_
       refine wN hK ?_; clear hK
       refine uT rfl rfl ?_
       refine uS rfl fun K hK => ?_
       iterate 2 refine jm rfl rfl ?_
       refine wN hK ?_; clear hK
       refine WC.ret ?_
       exact fun w' hw' => ⟨rfl, hw'.1⟩
 · rw [if_neg h]
   refine calls_wc (args := [.slice A 2 c]) [2] [] Tryz.func109 rfl Tryz.ntmps109 rfl rfl rfl rfl (H.refl _) ?_
   refine uS rfl fun K hK => ?_
   refine jm rfl rfl ?_
   refine wN hK ?_; clear hK
   refine uS rfl fun K hK => ?_
   refine jm rfl rfl ?_
   refine wN hK ?_; clear hK
   refine WC.seq fun K hK => ?_
   refine uS rfl fun K hK => ?_
   refine jm rfl rfl ?_
   refine jn rfl rfl rfl ?_
   refine jm rfl rfl ?_
   refine wN hK ?_; clear hK
   refine WC.block ?_
   refine WC.loopF (fun i : Nat => [(8, iv i), (7, iv 2), (6, .slice A 2 c), (3, iv 0)]) (fun _ => []) (fun i => i = 0) (fun i => 2 - i) 0 (by repeat (first | exact trivial | refine ⟨rfl, ?_⟩)) (Imp.nil _) rfl ?_
   intro i U hi
   subst hi
   refine uS rfl fun K hK => ?_
   refine jt rfl rfl (by omega) ?_
   refine wN hK ?_; clear hK
   refine WC.seq fun K hK => ?_
   refine uT rfl rfl ?_
   refine WC.skip ?_
   (refine hK _ _ ?_; clear hK)
   refine WC.seq fun K hK => ?_
   refine WC.block ?_
   refine uS rfl fun K hK => ?_
   refine wG rfl rfl (g_indexAddr (sz := 1) rfl (.mk rfl rfl) (.mk rfl rfl) rfl rfl (show _ = ((0 : Nat) : Int) from rfl) (by omega) (fun _ _ => sl_some hs (by omega))) ?_
   refine jl rfl rfl rfl (rd_sl hs g0) ?_
   refine jm rfl rfl ?_
   refine wN hK ?_; clear hK
   refine uS rfl fun K hK => ?_
   iterate 2 refine jm rfl rfl ?_
   refine jt rfl rfl (by omega) ?_
   refine wN hK ?_; clear hK
   refine uT rfl rfl ?_
   refine uS rfl fun K hK => ?_
   iterate 2 refine jm rfl rfl ?_
   refine wN hK ?_; clear hK
   refine WC.ret ?_
   exact fun w' hw' => ⟨rfl, hw'.1⟩
def ordI (m : Mv) (g p : Nat) : Int := if cmpN m.g g = 0 then cmpN m.p p else cmpN m.g g
theorem ordI_bd (m : Mv) (g p : Nat) : -1 ≤ ordI m g p ∧ ordI m g p ≤ 1 := by unfold ordI; split <;> exact cmpN_bd _ _
theorem order_e (m : Mv) (g p : Nat) (w : World) : Calls Tryz.prog 64 #[mvV m, meV g p] w fun e w' => e = .returned (iv (ordI m g p)) ∧ Below w.heap.size w w' := by
 have h1 := fun w => compare_e m.g g w
 have h2 := fun w => compare_e m.p p w
 unfold ordI
 generalize cmpN m.g g = a at *
 generalize cmpN m.p p = b at *
 have h3 := fun v w h => cmpor_e (v := v) a b w h
 have hlen : (([] : List Value) ++ [iv a, iv b]) = [iv a, iv b] := rfl
 refine calls_wc (args := [mvV m, meV g p]) [4] [] Tryz.func64 rfl Tryz.ntmps64 rfl rfl rfl rfl (H.refl _) ?_
 refine uS rfl fun K hK => ?_
 refine WL.want rfl (WL1.box rfl rfl (.mk (v := .agg _) rfl rfl) rfl (fun b2 => ?_))
 refine WL.want rfl (WL1.box rfl rfl (.mk (v := .agg _) rfl rfl) rfl (fun b3 => ?_))
 refine jm rfl rfl ?_
 refine wN hK ?_; clear hK
 refine WC.seq fun K hK => ?_
 refine WC.split 10 rfl (by kernel_rfl) (by decide +kernel) ?_
 refine ya 0 rfl rfl rfl rfl ?_
 refine yl rfl rfl rfl (rd_pt (.tail _ (.head _)) rfl) ?_
 refine ya 0 rfl rfl rfl rfl ?_
 refine yl rfl rfl rfl (rd_pt (.head _) rfl) ?_
 refine WQ.want rfl (WQ1.callP rfl rfl rfl (.cons (.mk (v := .int _ _) rfl rfl) (.cons (.mk (v := .int _ _) rfl rfl) .nil)) (fun w hw => h1 w) ?_)
 refine ya 1 rfl rfl rfl rfl ?_
 refine yl rfl rfl rfl (rd_pt (.tail _ (.head _)) rfl) ?_
 refine ya 1 rfl rfl rfl rfl ?_
 refine yl rfl rfl rfl (rd_pt (.head _) rfl) ?_
 refine WQ.want rfl (WQ1.callP rfl rfl rfl (.cons (.mk (v := .int _ _) rfl rfl) (.cons (.mk (v := .int _ _) rfl rfl) .nil)) (fun w hw => h2 w) ?_)
 refine WQ.nil ?_
 refine WY.one 10 (by decide +kernel) rfl rfl ?_
 refine WL1.lit (cs := [_, _]) elI rfl rfl rfl (.cons (.mk (v := .int _ _) rfl rfl) (.cons (.mk (v := .int _ _) rfl rfl) .nil)) rfl (by first | (simp [Value.cells]; done) | fail) rfl rfl (fun b15 => ?_)
 refine WL.nil ?_
 refine WY.one 11 (by decide +kernel) rfl rfl ?_
 refine WL1.callP rfl rfl rfl (.cons (.mk (v := .slice _ _ _) rfl rfl) .nil) (fun w hw => h3 _ w (Sl.of_vec hw (by repeat constructor))) ?_
 refine WL.nil ?_
 refine uY 12 rfl (by decide +kernel) rfl (Gm rfl) ?_
 refine WY.done (by decide +kernel) ?_
 (refine hK _ _ ?_; clear hK)
 refine WC.ret ?_
 exact fun w' hw' => ⟨rfl, hw'.1⟩
def lesM (m : Mv) (g p : Nat) : Bool := decide (m.g < g) || (decide (m.g = g) && decide (m.p < p))
theorem cmpN_lt {x y : Nat} : cmpN x y < 0 ↔ x < y := by unfold cmpN; split <;> (try split) <;> omega
theorem cmpN_eq {x y : Nat} : cmpN x y = 0 ↔ x = y := by unfold cmpN; split <;> (try split) <;> omega
theorem lesM_iff {m : Mv} {g p : Nat} : lesM m g p = true ↔ m.g < g ∨ m.g = g ∧ m.p < p := by
 unfold lesM
 rw [Bool.or_eq_true, Bool.and_eq_true, decide_eq_true_eq, decide_eq_true_eq, decide_eq_true_eq]
theorem ordI_lt (m : Mv) (g p : Nat) : ordI m g p < 0 ↔ lesM m g p = true := by
 rw [lesM_iff]
 unfold ordI
 by_cases h : cmpN m.g g = 0
 · have e := cmpN_eq.1 h
   rw [if_pos h, cmpN_lt]; omega
 · have e : ¬ m.g = g := fun e => h (cmpN_eq.2 e)
   rw [if_neg h, cmpN_lt]; omega
theorem ordI_eq (m : Mv) (g p : Nat) : ordI m g p = 0 ↔ m.g = g ∧ m.p = p := by
 unfold ordI
 by_cases h : cmpN m.g g = 0
 · have e := cmpN_eq.1 h
   rw [if_pos h, cmpN_eq]; omega
 · have e : ¬ m.g = g := fun e => h (cmpN_eq.2 e)
   rw [if_neg h]; constructor
   · intro h2; exact absurd h2 h
   · intro h2; exact absurd h2.1 e
def posN : List Mv → Nat → Nat → Nat
 | [], _, _ => 0
 | m :: ms, g, p => cond (lesM m g p) (posN ms g p + 1) (posN ms g p)
theorem posN_app : ∀ (l k : List Mv) (g p : Nat), posN (l ++ k) g p = posN l g p + posN k g p
 | [], k, g, p => by rw [List.nil_append, posN, Nat.zero_add]
 | m :: l, k, g, p => by rw [List.cons_append, posN, posN, posN_app l]; cases lesM m g p <;> simp [cond] <;> omega
theorem posN_all : ∀ (l : List Mv) (g p : Nat), (∀ m ∈ l, lesM m g p = true) → posN l g p = l.length
 | [], _, _, _ => rfl
 | m :: l, g, p, h => by rw [posN, h m (List.mem_cons_self ..), posN_all l g p fun x hx => h x (List.mem_cons_of_mem _ hx)]; rfl
theorem posN_none : ∀ (l : List Mv) (g p : Nat), (∀ m ∈ l, lesM m g p = false) → posN l g p = 0
 | [], _, _, _ => rfl
 | m :: l, g, p, h => by rw [posN, h m (List.mem_cons_self ..), posN_none l g p fun x hx => h x (List.mem_cons_of_mem _ hx)]; rfl
theorem posN_at {l : List Mv} {g p i : Nat} (hi : i ≤ l.length) (h1 : ∀ a, a < i → lesM (nth l a) g p = true) (h2 : ∀ a, i ≤ a → a < l.length → lesM (nth l a) g p = false) : posN l g p = i := by
 rw [← List.take_append_drop i l, posN_app, posN_all _ g p, posN_none _ g p, List.length_take, Nat.min_eq_left hi, Nat.add_zero]
 · intro m hm
   obtain ⟨k, hk, rfl⟩ := List.getElem_of_mem hm
   rw [List.getElem_drop]
   have hk2 : i + k < l.length := by rw [List.length_drop] at hk; omega
   rw [← nth_eq hk2]
   exact h2 _ (by omega) hk2
 · intro m hm
   obtain ⟨k, hk, rfl⟩ := List.getElem_of_mem hm
   rw [List.getElem_take]
   have hk2 : k < i := by rw [List.length_take] at hk; omega
   rw [← nth_eq (by omega)]
   exact h1 _ hk2
def Inc (l : List Mv) : Prop := ∀ i, i + 1 < l.length → (nth l i).g < (nth l (i + 1)).g
theorem Inc.lt {l : List Mv} (h : Inc l) : ∀ b a, a < b → b < l.length → (nth l a).g < (nth l b).g
 | 0, _, h1, _ => by omega
 | b + 1, a, h1, h2 => by
   have := h b h2
   by_cases e : a = b
   · subst e; exact this
   · exact Nat.lt_trans (h.lt b a (by omega) (by omega)) this
def fndB (l : List Mv) (g p : Nat) : Bool := decide (posN l g p < l.length) && (decide ((nth l (posN l g p)).g = g) && decide ((nth l (posN l g p)).p = p))
abbrev ordF : Value := .func (.func 64) #[] #[]
theorem shr1 (x : Nat) (hx : x < 2 ^ 63) : (x : Int).fdiv (2 ^ (min (1 : Int).toNat IntKind.u64.bits)) = ((x / 2 : Nat) : Int) := by
 rw [show min (1 : Int).toNat IntKind.u64.bits = 1 from rfl, Int.fdiv_eq_ediv_of_nonneg _ (by decide)]
 omega
set_option maxHeartbeats 4000000 in
theorem bsearch_e {A : Option Addr} {c m g p : Nat} {ms : List Mv} (w : World) (hv : Sl w 4 (.slice A m c) m (mvs ms)) (hl : ms.length = m) (hm : m ≤ 1000) (hinc : Inc ms) :
   Calls Tryz.prog 63 #[.slice A m c, meV g p, ordF] w fun e w' => e = .returned (.tuple #[iv (posN ms g p), .bool (fndB ms g p)]) ∧ Below w.heap.size w w' := by
 have gm2 : ∀ j u, [iv g, iv p][j]? = some u → [iv g, iv p][0 + (0 + j)]? = some u := fun j u h => by rw [Nat.zero_add, Nat.zero_add]; exact h
 refine calls_wc (args := [.slice A m c, meV g p, ordF]) [6, 7] [] Tryz.func63 rfl Tryz.ntmps63 rfl rfl rfl rfl (H.refl _) ?_
 refine uS rfl fun K hK => ?_
 refine WL.want rfl (WL1.box rfl rfl (.mk (v := .agg _) rfl rfl) rfl (fun b4 => ?_))
 iterate 2 refine jm rfl rfl ?_
 refine wN hK ?_; clear hK
 refine uS rfl fun K hK => ?_
 refine jm rfl rfl ?_
 refine jn rfl rfl rfl ?_
 refine jm rfl rfl ?_
 refine wN hK ?_; clear hK
 refine uS rfl fun K hK => ?_
 iterate 3 refine jm rfl rfl ?_
 refine wN hK ?_; clear hK
 refine WC.seq fun K hK => ?_
 refine WC.block ?_
 refine WC.loopF2 (fun i j : Nat => [(9, iv i), (10, iv j), (8, iv m), (0, .slice A m c), (2, ordF), (4, cellPtr (some ⟨b4, 0, none⟩) 0)]) (fun _ _ => [pt b4 MET [iv g, iv p]]) (fun i j => i ≤ j ∧ j ≤ m ∧ (∀ a, a < i → lesM (nth ms a) g p = true) ∧ ∀ a, j ≤ a → a < m → lesM (nth ms a) g p = false) (fun i j => j - i) 0 m (by repeat (first | exact trivial | refine ⟨rfl, ?_⟩)) (Imp.pick (by repeat constructor) (Imp.nil _)) ⟨by omega, by omega, fun a h => by omega, fun a h h' => by omega⟩ ?_
 rintro i j U ⟨hij, hjm, h1, h2⟩
 by_cases hlt : i < j
 · obtain ⟨h, hh⟩ : ∃ h, h = (i + j) / 2 := ⟨_, rfl⟩
   have hi : i ≤ h := by omega
   have hj : h < j := by omega
   have hcv : IntKind.u64.wrap ((i : Int) + (j : Int)) = ((i + j : Nat) : Int) := by
     rw [show (i : Int) + (j : Int) = ((i + j : Nat) : Int) from by omega]
     exact IntWalk.u64_in _ (by omega)
   have hq := shr1 (i + j) (by omega)
   rw [← hh] at hq
   have gM : ∀ q u, [iv (nth ms h).g, iv (nth ms h).p, iv (nth ms h).d, iv (nth ms h).b][q]? = some u → (mvs ms)[h * 4 + q]? = some u := mvs_row (by omega)
   have hmo : ∀ a b, a < b → b < m → lesM (nth ms b) g p = true → lesM (nth ms a) g p = true := fun a b hab hb hl' => by
     have := hinc.lt b a hab (by omega)
     rw [lesM_iff] at hl' ⊢
     omega
   have hor := fun w => order_e (nth ms h) g p w
   have hol := ordI_lt (nth ms h) g p
   have hbd := ordI_bd (nth ms h) g p
   generalize hX : ordI (nth ms h) g p = x at *
   cases hles : lesM (nth ms h) g p with
   | true =>
     have hx : x < 0 := hol.2 hles
     clear hX hol
     refine WC.seq fun K hK => ?_
     refine uS rfl fun K hK => ?_
     iterate 2 refine jm rfl rfl ?_
     refine jt rfl rfl (by omega) ?_
     refine wN hK ?_; clear hK
     refine uT rfl rfl ?_
     refine WC.skip ?_
     (refine hK _ _ ?_; clear hK)
     refine WC.block ?_
     refine uS rfl fun K hK => ?_
     iterate 2 refine jm rfl rfl ?_
     refine ji rfl rfl (by omega) ?_
     refine wG rfl rfl (g_conv rfl rfl rfl (.mk rfl rfl) hcv) ?_
     refine wG rfl rfl (g_shr rfl (.mk rfl rfl) (.mk rfl rfl) (by omega) hq) ?_
     refine wG rfl rfl (g_conv rfl rfl rfl (.mk rfl rfl) (IntWalk.i64_in _ (by omega))) ?_
     refine jm rfl rfl ?_
     refine wN hK ?_; clear hK
     refine WC.seq fun K hK => ?_
     refine WC.quiet rfl (by kernel_rfl) (by decide +kernel) ?_
     iterate 3 refine ym rfl rfl ?_
     refine WQ.want rfl (WQ1.give rfl (g_indexAddr (sz := 4) rfl (.mk rfl rfl) (.mk rfl rfl) rfl rfl rfl (by omega) (fun _ _ => sl_some hv (by omega))) ?_)
     refine WQ.want rfl (WQ1.give rfl (g_loadA rfl (.mk rfl rfl) rfl rfl (rdr_sl (cs := [iv (nth ms h).g, iv (nth ms h).p, iv (nth ms h).d, iv (nth ms h).b]) hv (by omega) gM)) ?_)
     refine WQ.want rfl (WQ1.give rfl (g_loadA rfl (.mk rfl rfl) rfl rfl (rdr_pt (cs := [iv g, iv p]) (by repeat constructor) gm2)) ?_)
     refine WQ.want rfl (WQ1.callVP rfl rfl (.mk rfl rfl) (by first | assumption | rfl | kernel_rfl) (.cons (.mk (v := .agg _) rfl rfl) (.cons (.mk (v := .agg _) rfl rfl) .nil)) (fun w hw => hor w) ?_)
     refine yt rfl rfl (by omega) ?_
     refine WQ.nil ?_
     (refine hK _ _ ?_; clear hK)
     refine uT rfl rfl ?_
     refine WC.region rfl ?_
     refine jm rfl rfl ?_
     refine ji rfl rfl (by omega) ?_
     refine jm rfl rfl ?_
     refine WL.nil ?_
     refine ⟨h + 1, j, (by repeat (first | exact trivial | refine ⟨rfl, ?_⟩)), Imp.pick (by repeat constructor) (Imp.nil _), ⟨by omega, by omega, fun a ha => ?_, h2⟩, by omega⟩
     by_cases e : a = h
     · rw [e]; exact hles
     · exact hmo a h (by omega) (by omega) hles
   | false =>
     have hx : ¬ x < 0 := fun h' => by rw [hol.1 h'] at hles; cases hles
     clear hX hol
     refine WC.seq fun K hK => ?_
     refine uS rfl fun K hK => ?_
     iterate 2 refine jm rfl rfl ?_
     refine jt rfl rfl (by omega) ?_
     refine wN hK ?_; clear hK
     refine uT rfl rfl ?_
     refine WC.skip ?_
     (refine hK _ _ ?_; clear hK)
     refine WC.block ?_
     refine uS rfl fun K hK => ?_
     iterate 2 refine jm rfl rfl ?_
     refine ji rfl rfl (by omega) ?_
     refine wG rfl rfl (g_conv rfl rfl rfl (.mk rfl rfl) hcv) ?_
     refine wG rfl rfl (g_shr rfl (.mk rfl rfl) (.mk rfl rfl) (by omega) hq) ?_
     refine wG rfl rfl (g_conv rfl rfl rfl (.mk rfl rfl) (IntWalk.i64_in _ (by omega))) ?_
     refine jm rfl rfl ?_
     refine wN hK ?_; clear hK
     refine WC.seq fun K hK => ?_
     refine WC.quiet rfl (by kernel_rfl) (by decide +kernel) ?_
     iterate 3 refine ym rfl rfl ?_
     refine WQ.want rfl (WQ1.give rfl (g_indexAddr (sz := 4) rfl (.mk rfl rfl) (.mk rfl rfl) rfl rfl rfl (by omega) (fun _ _ => sl_some hv (by omega))) ?_)
     refine WQ.want rfl (WQ1.give rfl (g_loadA rfl (.mk rfl rfl) rfl rfl (rdr_sl (cs := [iv (nth ms h).g, iv (nth ms h).p, iv (nth ms h).d, iv (nth ms h).b]) hv (by omega) gM)) ?_)
     refine WQ.want rfl (WQ1.give rfl (g_loadA rfl (.mk rfl rfl) rfl rfl (rdr_pt (cs := [iv g, iv p]) (by repeat constructor) gm2)) ?_)
     refine WQ.want rfl (WQ1.callVP rfl rfl (.mk rfl rfl) (by first | assumption | rfl | kernel_rfl) (.cons (.mk (v := .agg _) rfl rfl) (.cons (.mk (v := .agg _) rfl rfl) .nil)) (fun w hw => hor w) ?_)
     refine yf rfl rfl (by omega) ?_
     refine WQ.nil ?_
     (refine hK _ _ ?_; clear hK)
     refine uF rfl rfl ?_
     refine WC.region rfl ?_
     iterate 2 refine jm rfl rfl ?_
     refine WL.nil ?_
     refine ⟨i, h, (by repeat (first | exact trivial | refine ⟨rfl, ?_⟩)), Imp.pick (by repeat constructor) (Imp.nil _), ⟨by omega, by omega, h1, fun a ha ha2 => ?_⟩, by omega⟩
     cases hla : lesM (nth ms a) g p with
     | false => rfl
     | true =>
       by_cases e : a = h
       · rw [e, hles] at hla; cases hla
       · rw [hmo h a (by omega) ha2 hla] at hles; cases hles
 · obtain rfl : i = j := by omega
   have hpos : posN ms g p = i := posN_at (by omega) h1 fun a h3 h4 => h2 a h3 (by omega)
   have hfn : fndB ms g p = (decide (i < m) && (decide ((nth ms i).g = g) && decide ((nth ms i).p = p))) := by unfold fndB; rw [hpos, hl]
   by_cases him : i < m
   · rw [decide_eq_true him, Bool.true_and] at hfn
     have gM : ∀ q u, [iv (nth ms i).g, iv (nth ms i).p, iv (nth ms i).d, iv (nth ms i).b][q]? = some u → (mvs ms)[i * 4 + q]? = some u := mvs_row (by omega)
     have hor := fun w => order_e (nth ms i) g p w
     have hol := ordI_eq (nth ms i) g p
     by_cases he : (nth ms i).g = g ∧ (nth ms i).p = p
     · have hx := hol.2 he
       rw [decide_eq_true he.1, decide_eq_true he.2] at hfn
       rw [hx] at hor
       refine WC.seq fun K hK => ?_
       refine uS rfl fun K hK => ?_
       iterate 2 refine jm rfl rfl ?_
       refine jf rfl rfl (by omega) ?_
       refine wN hK ?_; clear hK
       refine uF rfl rfl ?_
       refine WC.exit ?_
       (clear hK; refine hK _ _ ?_; clear hK)
       refine WC.seq fun K hK => ?_
       refine WC.quiet rfl (by kernel_rfl) (by decide +kernel) ?_
       iterate 3 refine ym rfl rfl ?_
       refine yt rfl rfl (by omega) ?_
       refine ym rfl rfl ?_
       iterate 3 refine Zm rfl rfl ?_
       refine ZW rfl (WQ1.give rfl (g_indexAddr (sz := 4) rfl (.mk rfl rfl) (.mk rfl rfl) rfl rfl rfl (by omega) (fun _ _ => sl_some hv (by omega))) ?_)
       refine ZW rfl (WQ1.give rfl (g_loadA rfl (.mk rfl rfl) rfl rfl (rdr_sl (cs := [iv (nth ms i).g, iv (nth ms i).p, iv (nth ms i).d, iv (nth ms i).b]) hv (by omega) gM)) ?_)
       refine ZW rfl (WQ1.give rfl (g_loadA rfl (.mk rfl rfl) rfl rfl (rdr_pt (cs := [iv g, iv p]) (by repeat constructor) gm2)) ?_)
       refine ZW rfl (WQ1.callVP rfl rfl (.mk rfl rfl) (by first | assumption | rfl | kernel_rfl) (.cons (.mk (v := .agg _) rfl rfl) (.cons (.mk (v := .agg _) rfl rfl) .nil)) (fun w hw => hor w) ?_)
       refine Zt rfl rfl (by omega) ?_
       iterate 3 refine ym rfl rfl ?_
       refine WQ.nil ?_
       (refine hK _ _ ?_; clear hK)
       refine WC.ret ?_
       exact fun w' hw' => ⟨by rw [hpos, hfn]; rfl, hw'.1⟩
     · have hx : ordI (nth ms i) g p ≠ 0 := fun h => he (hol.1 h)
       have hbb : (decide ((nth ms i).g = g) && decide ((nth ms i).p = p)) = false := by
         rw [← Bool.decide_and]; exact decide_eq_false he
       rw [hbb] at hfn
       generalize ordI (nth ms i) g p = x at *
       refine WC.seq fun K hK => ?_
       refine uS rfl fun K hK => ?_
       iterate 2 refine jm rfl rfl ?_
       refine jf rfl rfl (by omega) ?_
       refine wN hK ?_; clear hK
       refine uF rfl rfl ?_
       refine WC.exit ?_
       (clear hK; refine hK _ _ ?_; clear hK)
       refine WC.seq fun K hK => ?_
       refine WC.quiet rfl (by kernel_rfl) (by decide +kernel) ?_
       iterate 3 refine ym rfl rfl ?_
       refine yt rfl rfl (by omega) ?_
       refine ym rfl rfl ?_
       iterate 3 refine Zm rfl rfl ?_
       refine ZW rfl (WQ1.give rfl (g_indexAddr (sz := 4) rfl (.mk rfl rfl) (.mk rfl rfl) rfl rfl rfl (by omega) (fun _ _ => sl_some hv (by omega))) ?_)
       refine ZW rfl (WQ1.give rfl (g_loadA rfl (.mk rfl rfl) rfl rfl (rdr_sl (cs := [iv (nth ms i).g, iv (nth ms i).p, iv (nth ms i).d, iv (nth ms i).b]) hv (by omega) gM)) ?_)
       refine ZW rfl (WQ1.give rfl (g_loadA rfl (.mk rfl rfl) rfl rfl (rdr_pt (cs := [iv g, iv p]) (by repeat constructor) gm2)) ?_)
       refine ZW rfl (WQ1.callVP rfl rfl (.mk rfl rfl) (by first | assumption | rfl | kernel_rfl) (.cons (.mk (v := .agg _) rfl rfl) (.cons (.mk (v := .agg _) rfl rfl) .nil)) (fun w hw => hor w) ?_)
       refine Zf rfl rfl (by omega) ?_
       iterate 3 refine ym rfl rfl ?_
       refine WQ.nil ?_
       (refine hK _ _ ?_; clear hK)
       refine WC.ret ?_
       exact fun w' hw' => ⟨by rw [hpos, hfn]; rfl, hw'.1⟩
   · rw [decide_eq_false him, Bool.false_and] at hfn
     refine WC.seq fun K hK => ?_
     refine uS rfl fun K hK => ?_
     iterate 2 refine jm rfl rfl ?_
     refine jf rfl rfl (by omega) ?_
     refine wN hK ?_; clear hK
     refine uF rfl rfl ?_
     refine WC.exit ?_
     (clear hK; refine hK _ _ ?_; clear hK)
     refine WC.seq fun K hK => ?_
     refine WC.quiet rfl (by kernel_rfl) (by decide +kernel) ?_
     iterate 3 refine ym rfl rfl ?_
     refine yf rfl rfl (by omega) ?_
     refine ym rfl rfl ?_
     iterate 8 refine uz rfl rfl ?_
     iterate 3 refine ym rfl rfl ?_
     refine WQ.nil ?_
     (refine hK _ _ ?_; clear hK)
     refine WC.ret ?_
     exact fun w' hw' => ⟨by rw [hpos, hfn]; rfl, hw'.1⟩
section
variable {P : Program} {n : Fr} {C : World → Prop} {o : Oper} {E : Env}
theorem g_indexS {t : TypeId} {x y : Operand} {s : ByteArray} {j : Nat} {kk : IntKind} {z : Int} {b : UInt8} (ho : o.op = .index t x y) (hx : Ev n E x (.string s)) (hy : Ev n E y (.int kk z)) (ht : P.underlying t = some .string) (hz : z = (j : Int)) (hu : s[j]? = some b) : Gives P n C o E (.int .u8 (b.toNat : Int)) := fun w _ => by
 unfold Ev at hx hy; unfold execOp
 subst hz
 simp [ho, hx, hy, Instr.index, asIntOf, run_underlying ht, hu]
end
def blT : List Nat := [0] ++ [1] ++ List.replicate 2 2 ++ List.replicate 4 3 ++ List.replicate 8 4 ++ List.replicate 16 5 ++ List.replicate 32 6 ++ List.replicate 64 7 ++ List.replicate 128 8
def blen (x : Nat) : Nat := nth blT x
def lenS : ByteArray := ⟨(blT.map UInt8.ofNat).toArray⟩
theorem lenS_at : ∀ x, x < 64 → lenS[x]? = some (UInt8.ofNat (blen x)) := by decide +kernel
theorem blen_u8 : ∀ x, x < 64 → (UInt8.ofNat (blen x)).toNat = blen x := by decide +kernel
theorem blen_pos : ∀ x, x < 64 → 1 ≤ x → 1 ≤ blen x ∧ blen x ≤ 6 := by decide +kernel
theorem blen_le : ∀ x, x < 64 → blen x ≤ 6 := by decide +kernel
theorem len64_e (x : Nat) (w : World) (hx : x < 64) : Calls Tryz.prog 166 #[.int .u64 x] w fun e w' => e = .returned (iv (blen x)) ∧ Below w.heap.size w w' := by
 have h1 := lenS_at x hx
 have h2 := blen_u8 x hx
 have h3 := blen_le x hx
 have hcv : IntKind.u8.wrap (x : Int) = (x : Int) := IntWalk.u8_in _ (by omega)
 have hcv2 : IntKind.i64.wrap (((UInt8.ofNat (blen x)).toNat : Nat) : Int) = ((blen x : Nat) : Int) := by rw [h2]; exact IntWalk.i64_in _ (by omega)
 have had : IntKind.i64.wrap ((0 : Int) + ((blen x : Nat) : Int)) = ((blen x : Nat) : Int) := by rw [Int.zero_add]; exact IntWalk.i64_in _ (by omega)
 refine calls_wc (args := [.int .u64 x]) [2] [] Tryz.func166 rfl Tryz.ntmps166 rfl rfl rfl rfl (H.refl _) ?_
 refine uS rfl fun K hK => ?_
 refine jm rfl rfl ?_
 refine wN hK ?_; clear hK
 refine WC.seq fun K hK => ?_
 refine uS rfl fun K hK => ?_
 refine jm rfl rfl ?_
 refine jf rfl rfl (by omega) ?_
 refine wN hK ?_; clear hK
 refine uF rfl rfl ?_
 refine WC.skip ?_
 (refine hK _ _ ?_; clear hK)
 refine WC.seq fun K hK => ?_
 refine uS rfl fun K hK => ?_
 refine jm rfl rfl ?_
 refine jf rfl rfl (by omega) ?_
 refine wN hK ?_; clear hK
 refine uF rfl rfl ?_
 refine WC.skip ?_
 (refine hK _ _ ?_; clear hK)
 refine WC.seq fun K hK => ?_
 refine uS rfl fun K hK => ?_
 refine jm rfl rfl ?_
 refine jf rfl rfl (by omega) ?_
 refine wN hK ?_; clear hK
 refine uF rfl rfl ?_
 refine WC.skip ?_
 (refine hK _ _ ?_; clear hK)
 refine uS rfl fun K hK => ?_
 iterate 2 refine jm rfl rfl ?_
 refine wG rfl rfl (g_conv rfl rfl rfl (.mk rfl rfl) hcv) ?_
 refine wG rfl rfl (g_indexS (s := lenS) rfl (.mk rfl (by kernel_rfl)) (.mk rfl rfl) (by kernel_rfl) rfl h1) ?_
 refine wG rfl rfl (g_conv rfl rfl rfl (.mk rfl rfl) hcv2) ?_
 refine wG rfl rfl (g_add rfl (.mk rfl rfl) (.mk rfl rfl) had) ?_
 refine jm rfl rfl ?_
 refine wN hK ?_; clear hK
 refine WC.ret ?_
 exact fun w' hw' => ⟨rfl, hw'.1⟩
theorem blen_e (x : Nat) (w : World) (hx : x < 64) : Calls Tryz.prog 120 #[.int .u64 x] w fun e w' => e = .returned (iv (blen x)) ∧ Below w.heap.size w w' := by
 have h := fun w => len64_e x w hx
 generalize blen x = y at *
 refine calls_wc (args := [.int .u64 x]) [2] [] Tryz.func120 rfl Tryz.ntmps120 rfl rfl rfl rfl (H.refl _) ?_
 refine uS rfl fun K hK => ?_
 refine jm rfl rfl ?_
 refine wN hK ?_; clear hK
 refine WC.seq fun K hK => ?_
 refine uF rfl rfl ?_
 refine WC.skip ?_
 (refine hK _ _ ?_; clear hK)
 refine uS rfl fun K hK => ?_
 refine jm rfl rfl ?_
 refine WL.want rfl (WL1.callP rfl rfl rfl (.cons (.mk (v := .int _ _) rfl rfl) .nil) (fun w hw => h w) ?_)
 refine jm rfl rfl ?_
 refine wN hK ?_; clear hK
 refine WC.ret ?_
 exact fun w' hw' => ⟨rfl, hw'.1⟩
theorem less_e (x y : Nat) (w : World) : Calls Tryz.prog 190 #[iv x, iv y] w fun e w' => e = .returned (.bool (decide (x < y))) ∧ Below w.heap.size w w' := by
 by_cases h1 : x < y
 · rw [decide_eq_true h1]
   refine calls_wc (args := [iv x, iv y]) [4] [] Tryz.func190 rfl Tryz.ntmps190 rfl rfl rfl rfl (H.refl _) ?_
   refine uS rfl fun K hK => ?_
   refine jm rfl rfl ?_
   refine wN hK ?_; clear hK
   refine uS rfl fun K hK => ?_
   refine jm rfl rfl ?_
   refine WL.want rfl (WL1.callP rfl rfl rfl (.cons (.mk (v := .int _ _) rfl rfl) .nil) (fun w hw => isnan_e x w) ?_)
   refine jm rfl rfl ?_
   iterate 3 refine ut rfl rfl ?_
   iterate 2 refine jm rfl rfl ?_
   iterate 2 refine qm rfl rfl ?_
   refine qt rfl rfl (by omega) ?_
   iterate 2 refine jm rfl rfl ?_
   refine wN hK ?_; clear hK
   refine WC.ret ?_
   exact fun w' hw' => ⟨rfl, hw'.1⟩
 · rw [decide_eq_false h1]
   refine calls_wc (args := [iv x, iv y]) [4] [] Tryz.func190 rfl Tryz.ntmps190 rfl rfl rfl rfl (H.refl _) ?_
   refine uS rfl fun K hK => ?_
   refine jm rfl rfl ?_
   refine wN hK ?_; clear hK
   refine uS rfl fun K hK => ?_
   refine jm rfl rfl ?_
   refine WL.want rfl (WL1.callP rfl rfl rfl (.cons (.mk (v := .int _ _) rfl rfl) .nil) (fun w hw => isnan_e x w) ?_)
   refine jm rfl rfl ?_
   iterate 3 refine ut rfl rfl ?_
   iterate 2 refine jm rfl rfl ?_
   iterate 2 refine qm rfl rfl ?_
   refine qf rfl rfl (by omega) ?_
   iterate 2 refine jm rfl rfl ?_
   refine wN hK ?_; clear hK
   refine WC.ret ?_
   exact fun w' hw' => ⟨rfl, hw'.1⟩
def insJ : List Nat → Nat → List Nat
 | l, 0 => l
 | l, j + 1 => cond (Nat.blt (nth l (j + 1)) (nth l j)) (insJ ((l.set (j + 1) (nth l j)).set j (nth l (j + 1))) j) l
def isoF (l : List Nat) : Nat → List Nat
 | 0 => l
 | i + 1 => insJ (isoF l i) i
def isort (l : List Nat) : List Nat := isoF l l.length
theorem insJ_len : ∀ (j : Nat) (l : List Nat), (insJ l j).length = l.length
 | 0, l => rfl
 | j + 1, l => by
   rw [insJ]
   cases Nat.blt (nth l (j + 1)) (nth l j) with
   | true => rw [cond_true, insJ_len j, List.length_set, List.length_set]
   | false => rfl
theorem isoF_len (l : List Nat) : ∀ i, (isoF l i).length = l.length
 | 0 => rfl
 | i + 1 => by rw [isoF, insJ_len, isoF_len l i]
theorem isort_len (l : List Nat) : (isort l).length = l.length := isoF_len l _
theorem isoF_one (l : List Nat) : isoF l 1 = l := by rw [isoF, isoF, insJ]
theorem blt_iff {a b : Nat} : Nat.blt a b = decide (a < b) := by
 by_cases h : a < b
 · rw [decide_eq_true h]; exact Nat.ble_eq_true_of_le h
 · rw [decide_eq_false h]
   cases e : Nat.blt a b with
   | false => rfl
   | true => exact absurd (Nat.le_of_ble_eq_true e) h
theorem ldv_sets {l : List Nat} {i k x : Nat} (h : i = k * 1) : (ldv l).set i (iv x) = ldv (l.set k x) := by
 rw [h, Nat.mul_one]; unfold ldv; rw [List.map_set]
set_option maxHeartbeats 4000000 in
theorem insort_f {w0 w : World} {L0 : List Asrt} {A : Option Addr} {c m : Nat} {l : List Nat} (hl : l.length = m) (hm : m ≤ 1000) (hw : H w0 (vec A m c 3 1 (ldv l) :: L0) w) :
   Calls Tryz.prog 184 #[.slice A m c, iv 0, iv m] w fun e w' => ∃ v L', e = .returned v ∧ H w0 L' w' ∧ v = .tuple #[] ∧ L' = vec A m c 3 1 (ldv (isort l)) :: L0 := by
 have hone := isoF_one l
 refine calls_wc (args := [.slice A m c, iv 0, iv m]) [] (vec A m c 3 1 (ldv l) :: L0) Tryz.func184 rfl Tryz.ntmps184 rfl rfl rfl rfl hw ?_
 refine uS rfl fun K hK => ?_
 refine jm rfl rfl ?_
 refine ji rfl rfl (by omega) ?_
 refine jm rfl rfl ?_
 refine wN hK ?_; clear hK
 refine WC.block ?_
 refine WC.loopF (fun i : Nat => [(6, iv i), (0, .slice A m c), (1, iv 0), (2, iv m)]) (fun i => vec A m c 3 1 (ldv (isoF l i)) :: L0) (fun i => 1 ≤ i ∧ (i ≤ m ∨ i = 1)) (fun i => m + 1 - i) 1 (by repeat (first | exact trivial | refine ⟨rfl, ?_⟩)) (by rw [hone]; exact Imp.refl _) ⟨by omega, by omega⟩ ?_
 rintro i U ⟨hi1, hi⟩
 by_cases hlt : i < m
 · have hnx : isoF l (i + 1) = insJ (isoF l i) i := rfl
   have hil : (isoF l i).length = m := by rw [isoF_len, hl]
   refine WC.seq fun K hK => ?_
   refine uS rfl fun K hK => ?_
   iterate 2 refine jm rfl rfl ?_
   refine jt rfl rfl (by omega) ?_
   refine wN hK ?_; clear hK
   refine uT rfl rfl ?_
   refine WC.skip ?_
   (refine hK _ _ ?_; clear hK)
   refine WC.seq fun K hK => ?_
   refine WC.block ?_
   refine uS rfl fun K hK => ?_
   iterate 2 refine jm rfl rfl ?_
   refine wN hK ?_; clear hK
   refine WC.block ?_
   refine WC.loopF2 (fun (j : Nat) (q : List Nat) => [(7, iv j), (6, iv i), (0, .slice A m c), (1, iv 0), (2, iv m)]) (fun j q => vec A m c 3 1 (ldv q) :: L0) (fun j q => j ≤ i ∧ q.length = m ∧ insJ q j = isoF l (i + 1)) (fun j _ => j) i (isoF l i) (by repeat (first | exact trivial | refine ⟨rfl, ?_⟩)) (Imp.refl _) ⟨Nat.le_refl _, hil, rfl⟩ ?_
   rintro j q U2 ⟨hj, hql, hq⟩
   by_cases hj0 : j = 0
   · subst hj0
     have hq2 : q = isoF l (i + 1) := hq
     refine WC.seq fun K hK => ?_
     refine WC.seq fun K hK => ?_
     refine WC.quiet rfl (by kernel_rfl) (by decide +kernel) ?_
     iterate 2 refine ym rfl rfl ?_
     refine yf rfl rfl (by omega) ?_
     refine ym rfl rfl ?_
     iterate 10 refine uz rfl rfl ?_
     refine ym rfl rfl ?_
     refine WQ.nil ?_
     (refine hK _ _ ?_; clear hK)
     refine uF rfl rfl ?_
     refine WC.exit ?_
     (clear hK; refine hK _ _ ?_; clear hK)
     refine WC.region rfl ?_
     refine jm rfl rfl ?_
     refine ji rfl rfl (by omega) ?_
     refine jm rfl rfl ?_
     refine WL.nil ?_
     exact ⟨i + 1, (by repeat (first | exact trivial | refine ⟨rfl, ?_⟩)), by rw [← hq2]; exact Imp.refl _, ⟨by omega, by omega⟩, by omega⟩
   · obtain ⟨j, rfl⟩ : ∃ z, j = z + 1 := ⟨j - 1, by omega⟩
     have g1 := ldv_get (ld := q) (k := j + 1) (by omega)
     have g2 := ldv_get (ld := q) (k := j) (by omega)
     have hsub : IntKind.i64.wrap (((j + 1 : Nat) : Int) - 1) = (j : Int) := by rw [IntWalk.i64_in _ (by omega)]; omega
     have hle := fun w => less_e (nth q (j + 1)) (nth q j) w
     by_cases hb : nth q (j + 1) < nth q j
     · have hq3 : insJ ((q.set (j + 1) (nth q j)).set j (nth q (j + 1))) j = isoF l (i + 1) := by
         rw [← hq, insJ, blt_iff, decide_eq_true hb]; rfl
       have hb' : decide (nth q (j + 1) < nth q j) = true := decide_eq_true hb
       rw [hb'] at hle
       have hql2 : (ldv q).length = m := by rw [ldv_len, hql]
       have hst : ∀ k1 k2, k1 = (j + 1) * 1 → k2 = j * 1 → ((ldv q).set k1 (iv (nth q j : Nat))).set k2 (iv (nth q (j + 1) : Nat)) = ldv ((q.set (j + 1) (nth q j)).set j (nth q (j + 1))) := fun k1 k2 h1 h2 => by
         rw [ldv_sets h1, ldv_sets h2]
       refine WC.seq fun K hK => ?_
       refine WC.seq fun K hK => ?_
       refine WC.quiet rfl (by kernel_rfl) (by decide +kernel) ?_
       iterate 2 refine ym rfl rfl ?_
       refine yt rfl rfl (by omega) ?_
       refine ym rfl rfl ?_
       iterate 2 refine Zm rfl rfl ?_
       refine ZW rfl (WQ1.give rfl (g_indexAddr (sz := 1) rfl (.mk rfl rfl) (.mk rfl rfl) rfl rfl rfl (by omega) (fun w hw => vec_some hw (.head _) (by omega))) ?_)
       refine Zl rfl rfl rfl (rd_vec (by repeat constructor) g1) ?_
       iterate 2 refine Zm rfl rfl ?_
       refine ZW rfl (WQ1.give rfl (g_sub rfl (.mk rfl rfl) (.mk rfl rfl) hsub) ?_)
       refine ZW rfl (WQ1.give rfl (g_indexAddr (sz := 1) rfl (.mk rfl rfl) (.mk rfl rfl) rfl rfl rfl (by omega) (fun w hw => vec_some hw (.head _) (by omega))) ?_)
       refine Zl rfl rfl rfl (rd_vec (by repeat constructor) g2) ?_
       refine ZW rfl (WQ1.callP rfl rfl rfl (.cons (.mk (v := .int _ _) rfl rfl) (.cons (.mk (v := .int _ _) rfl rfl) .nil)) (fun w hw => hle w) ?_)
       refine ym rfl rfl ?_
       refine WQ.nil ?_
       (refine hK _ _ ?_; clear hK)
       refine uT rfl rfl ?_
       refine WC.skip ?_
       (refine hK _ _ ?_; clear hK)
       refine WC.seq fun K hK => ?_
       refine WC.block ?_
       refine WC.untilL [15, 16, 17] rfl (by kernel_rfl) ?_
       refine uP 0 rfl (by decide +kernel) (.inr (iS (by repeat constructor))) rfl rfl ?_
       refine uP 1 rfl (by decide +kernel) (.inr (iS (by repeat constructor))) rfl rfl ?_
       refine uP 2 rfl (by decide +kernel) (.inr (iS (by repeat constructor))) rfl rfl ?_
       refine uP 3 rfl (by decide +kernel) (.inr (iS (by repeat constructor))) rfl rfl ?_
       refine uG 4 rfl (by decide +kernel) (.inr (iS (by repeat constructor))) rfl ⟨rfl, g_sub rfl (.mk rfl rfl) (.mk rfl rfl) hsub⟩ ?_
       refine uP 5 rfl (by decide +kernel) (.inr (iS (by repeat constructor))) rfl rfl ?_
       refine uP 6 rfl (by decide +kernel) (.inr (iS (by repeat constructor))) rfl rfl ?_
       refine uG 7 rfl (by decide +kernel) (.inr (iS (by repeat constructor))) rfl ⟨rfl, g_sub rfl (.mk rfl rfl) (.mk rfl rfl) hsub⟩ ?_
       refine uB 8 rfl (by decide +kernel) (iS (by repeat constructor)) rfl ⟨rfl, g_indexAddr (sz := 1) rfl (.mk rfl rfl) (.mk rfl rfl) rfl rfl rfl (by omega) (fun w hw => vec_some hw (.head _) (by omega))⟩ ?_
       refine uB 9 rfl (by decide +kernel) (iS (by repeat constructor)) rfl (Gl rfl rfl (rd_vec (by repeat constructor) g2)) ?_
       refine uP 10 rfl (by decide +kernel) (.inr (iS (by repeat constructor))) rfl rfl ?_
       refine uP 11 rfl (by decide +kernel) (.inr (iS (by repeat constructor))) rfl rfl ?_
       refine WB.one 12 (by decide +kernel) rfl rfl ?_
       refine WL1.give rfl (g_indexAddr (sz := 1) rfl (.mk rfl rfl) (.mk rfl rfl) rfl rfl rfl (by omega) (fun w hw => vec_some hw (.head _) (by omega))) ?_
       refine WL.nil ?_
       refine ⟨.inr (iS (by repeat constructor)), ?_⟩
       refine uB 13 rfl (by decide +kernel) (iS (by repeat constructor)) rfl (Gl rfl rfl (rd_vec (by repeat constructor) g1)) ?_
       refine uB 14 rfl (by decide +kernel) (iS (by repeat constructor)) rfl ⟨rfl, g_indexAddr (sz := 1) rfl (.mk rfl rfl) (.mk rfl rfl) rfl rfl rfl (by omega) (fun w hw => vec_some hw (.head _) (by omega))⟩ ?_
       refine WB.one 15 (by decide +kernel) rfl rfl ?_
       refine WL1.storeV1 rfl rfl (.mk rfl rfl) (.mk (v := .int _ _) rfl rfl) rfl rfl (by first | omega | (simp; done) | (simp; omega)) (.head) ?_
       refine WL.nil ?_
       refine ⟨.inl (by decide +kernel), ?_⟩
       refine WB.one 16 (by decide +kernel) rfl rfl ?_
       refine WL1.give rfl (g_indexAddr (sz := 1) rfl (.mk rfl rfl) (.mk rfl rfl) rfl rfl rfl (by omega) (fun w hw => vec_some hw (.head _) (by omega))) ?_
       refine WL.nil ?_
       refine ⟨.inl (by decide +kernel), ?_⟩
       refine WB.one 17 (by decide +kernel) rfl rfl ?_
       refine WL1.storeV1 rfl rfl (.mk rfl rfl) (.mk (v := .int _ _) rfl rfl) rfl rfl (by first | omega | (simp; done) | (simp; omega)) (.head) ?_
       refine WL.nil ?_
       refine ⟨.inl (by decide +kernel), ?_⟩
       refine WB.done (by decide +kernel) ?_
       (refine hK _ _ ?_; clear hK)
       refine WC.region rfl ?_
       refine jm rfl rfl ?_
       refine wG rfl rfl (g_sub rfl (.mk rfl rfl) (.mk rfl rfl) hsub) ?_
       refine jm rfl rfl ?_
       refine WL.nil ?_
       refine ⟨j, (q.set (j + 1) (nth q j)).set j (nth q (j + 1)), (by repeat (first | exact trivial | refine ⟨rfl, ?_⟩)), ?_, ⟨by omega, by rw [List.length_set, List.length_set, hql], hq3⟩, by omega⟩
       rw [← hst _ _ rfl rfl]
       exact Imp.refl _
     · have hq3 : q = isoF l (i + 1) := by
         rw [← hq, insJ, blt_iff, decide_eq_false hb]; rfl
       have hb' : decide (nth q (j + 1) < nth q j) = false := decide_eq_false hb
       rw [hb'] at hle
       refine WC.seq fun K hK => ?_
       refine WC.seq fun K hK => ?_
       refine WC.quiet rfl (by kernel_rfl) (by decide +kernel) ?_
       iterate 2 refine ym rfl rfl ?_
       refine yt rfl rfl (by omega) ?_
       refine ym rfl rfl ?_
       iterate 2 refine Zm rfl rfl ?_
       refine ZW rfl (WQ1.give rfl (g_indexAddr (sz := 1) rfl (.mk rfl rfl) (.mk rfl rfl) rfl rfl rfl (by omega) (fun w hw => vec_some hw (.head _) (by omega))) ?_)
       refine Zl rfl rfl rfl (rd_vec (by repeat constructor) g1) ?_
       iterate 2 refine Zm rfl rfl ?_
       refine ZW rfl (WQ1.give rfl (g_sub rfl (.mk rfl rfl) (.mk rfl rfl) hsub) ?_)
       refine ZW rfl (WQ1.give rfl (g_indexAddr (sz := 1) rfl (.mk rfl rfl) (.mk rfl rfl) rfl rfl rfl (by omega) (fun w hw => vec_some hw (.head _) (by omega))) ?_)
       refine Zl rfl rfl rfl (rd_vec (by repeat constructor) g2) ?_
       refine ZW rfl (WQ1.callP rfl rfl rfl (.cons (.mk (v := .int _ _) rfl rfl) (.cons (.mk (v := .int _ _) rfl rfl) .nil)) (fun w hw => hle w) ?_)
       refine ym rfl rfl ?_
       refine WQ.nil ?_
       (refine hK _ _ ?_; clear hK)
       refine uF rfl rfl ?_
       refine WC.exit ?_
       (clear hK; refine hK _ _ ?_; clear hK)
       refine WC.region rfl ?_
       refine jm rfl rfl ?_
       refine ji rfl rfl (by omega) ?_
       refine jm rfl rfl ?_
       refine WL.nil ?_
       exact ⟨i + 1, (by repeat (first | exact trivial | refine ⟨rfl, ?_⟩)), by rw [← hq3]; exact Imp.refl _, ⟨by omega, by omega⟩, by omega⟩
 · have hfin : isoF l i = isort l := by
     unfold isort
     rw [hl]
     by_cases e : i = m
     · rw [e]
     · have : m = 0 := by omega
       have h1 : i = 1 := by omega
       rw [this, h1, isoF_one]; rfl
   refine WC.seq fun K hK => ?_
   refine uS rfl fun K hK => ?_
   iterate 2 refine jm rfl rfl ?_
   refine jf rfl rfl (by omega) ?_
   refine wN hK ?_; clear hK
   refine uF rfl rfl ?_
   refine WC.exit ?_
   exact fun w' hw' => ⟨_, _, rfl, hw', rfl, by rw [hfin]⟩
end Go.Proofs.YtdcijljfgcjelaaGreat
namespace Go.Proofs.YtdcijljfgcjelaaGreat
set_option maxRecDepth 20000
open Go.RowKit
attribute [local irreducible] Calls
set_option maxHeartbeats 4000000 in
theorem pdqo_f {w0 w : World} {L0 : List Asrt} {A : Option Addr} {c m : Nat} {z : Int} {l : List Nat} (hl : l.length = m) (hm : m ≤ 12) (hw : H w0 (vec A m c 3 1 (ldv l) :: L0) w) :
   Calls Tryz.prog 156 #[.slice A m c, iv 0, iv m, iv z] w fun e w' => ∃ v L', e = .returned v ∧ H w0 L' w' ∧ v = .tuple #[] ∧ L' = vec A m c 3 1 (ldv (isort l)) :: L0 := by
 refine calls_wc (args := [.slice A m c, iv 0, iv m, iv z]) [] (vec A m c 3 1 (ldv l) :: L0) Tryz.func156 rfl Tryz.ntmps156 rfl rfl rfl rfl hw ?_
 refine uS rfl fun K hK => ?_
 refine jm rfl rfl ?_
 refine wN hK ?_; clear hK
 refine uS rfl fun K hK => ?_
 refine jm rfl rfl ?_
 refine wN hK ?_; clear hK
 refine WC.block ?_
 refine WC.loopF (fun _ : Nat => [(0, .slice A m c), (1, iv 0), (2, iv m), (3, iv z)]) (fun _ => vec A m c 3 1 (ldv l) :: L0) (fun i => i = 0) (fun i => i) 0 (by repeat (first | exact trivial | refine ⟨rfl, ?_⟩)) (Imp.refl _) rfl ?_
 intro i U hi
 refine WC.block ?_
 refine uS rfl fun K hK => ?_
 iterate 2 refine jm rfl rfl ?_
 refine ji rfl rfl (by omega) ?_
 refine jm rfl rfl ?_
 refine wN hK ?_; clear hK
 refine WC.seq fun K hK => ?_
 refine uS rfl fun K hK => ?_
 refine jm rfl rfl ?_
 refine jt rfl rfl (by omega) ?_
 refine wN hK ?_; clear hK
 refine uT rfl rfl ?_
 refine uS rfl fun K hK => ?_
 iterate 3 refine jm rfl rfl ?_
 (refine WL.want rfl (WL1.callF rfl rfl rfl (.cons (.mk (v := .slice _ _ _) rfl rfl) (.cons (.mk (v := .int _ _) rfl rfl) (.cons (.mk (v := .int _ _) rfl rfl) .nil))) (fun w hw => insort_f (l := l) hl (by omega) hw) ?_); rintro _ _ ⟨rfl, rfl⟩)
 refine wN hK ?_; clear hK
 refine WC.ret ?_
 exact fun w' hw' => ⟨_, _, rfl, hw', rfl, rfl⟩
set_option maxHeartbeats 4000000 in
theorem sort_f {w0 w : World} {L0 : List Asrt} {A : Option Addr} {c m : Nat} {l : List Nat} (hl : l.length = m) (hm : m ≤ 12) (hw : H w0 (vec A m c 3 1 (ldv l) :: L0) w) :
   Calls Tryz.prog 113 #[.slice A m c] w fun e w' => ∃ v L', e = .returned v ∧ H w0 L' w' ∧ v = .tuple #[] ∧ L' = vec A m c 3 1 (ldv (isort l)) :: L0 := by
 have hcv : IntKind.u64.wrap (m : Int) = (m : Int) := IntWalk.u64_in _ (by omega)
 refine calls_wc (args := [.slice A m c]) [] (vec A m c 3 1 (ldv l) :: L0) Tryz.func113 rfl Tryz.ntmps113 rfl rfl rfl rfl hw ?_
 refine uS rfl fun K hK => ?_
 refine jm rfl rfl ?_
 refine jn rfl rfl rfl ?_
 refine jm rfl rfl ?_
 refine wN hK ?_; clear hK
 refine WC.region rfl ?_
 iterate 3 refine jm rfl rfl ?_
 refine wG rfl rfl (g_conv rfl rfl rfl (.mk rfl rfl) hcv) ?_
 refine WL.want rfl (WL1.callP rfl rfl rfl (.cons (.mk (v := .int _ _) rfl rfl) .nil) (fun w hw => blen_e m w (by omega)) ?_)
 (refine WL.want rfl (WL1.callF rfl rfl rfl (.cons (.mk (v := .slice _ _ _) rfl rfl) (.cons (.mk (v := .int _ _) rfl rfl) (.cons (.mk (v := .int _ _) rfl rfl) (.cons (.mk (v := .int _ _) rfl rfl) .nil)))) (fun w hw => pdqo_f (l := l) hl hm hw) ?_); rintro _ _ ⟨rfl, rfl⟩)
 refine WL.nil ?_
 exact fun w' hw' => ⟨_, _, rfl, hw', rfl, rfl⟩
def SInc (l : List Nat) : Prop := ∀ i, i + 1 < l.length → nth l i < nth l (i + 1)
theorem incB_sinc {l : List Nat} (h : incB l = true) : SInc l := fun i hi => incB_at h i hi
set_option maxHeartbeats 4000000 in
theorem compact_e {A : Option Addr} {c m : Nat} {l : List Nat} (w : World) (hv : Sl w 1 (.slice A m c) m (ldv l)) (hl : l.length = m) (hm : m ≤ 1000) (hi : SInc l) :
   Calls Tryz.prog 114 #[.slice A m c] w fun e w' => e = .returned (.slice A m c) ∧ Below w.heap.size w w' := by
 by_cases h2 : m < 2
 · refine calls_wc (args := [.slice A m c]) [2] [] Tryz.func114 rfl Tryz.ntmps114 rfl rfl rfl rfl (H.refl _) ?_
   refine uS rfl fun K hK => ?_
   refine jm rfl rfl ?_
   refine wN hK ?_; clear hK
   refine WC.seq fun K hK => ?_
   refine uS rfl fun K hK => ?_
   refine jm rfl rfl ?_
   refine jn rfl rfl rfl ?_
   refine jt rfl rfl (by omega) ?_
   refine wN hK ?_; clear hK
   refine uT rfl rfl ?_
   refine uS rfl fun K hK => ?_
   iterate 2 refine jm rfl rfl ?_
   refine wN hK ?_; clear hK
   refine WC.ret ?_
   exact fun w' hw' => ⟨rfl, hw'.1⟩
 refine calls_wc (args := [.slice A m c]) [2] [] Tryz.func114 rfl Tryz.ntmps114 rfl rfl rfl rfl (H.refl _) ?_
 refine uS rfl fun K hK => ?_
 refine jm rfl rfl ?_
 refine wN hK ?_; clear hK
 refine WC.seq fun K hK => ?_
 refine uS rfl fun K hK => ?_
 refine jm rfl rfl ?_
 refine jn rfl rfl rfl ?_
 refine jf rfl rfl (by omega) ?_
 refine wN hK ?_; clear hK
 refine uF rfl rfl ?_
 refine WC.skip ?_
 (refine hK _ _ ?_; clear hK)
 refine WC.seq fun K hK => ?_
 refine uS rfl fun K hK => ?_
 refine jm rfl rfl ?_
 refine wN hK ?_; clear hK
 refine WC.block ?_
 refine WC.loopF (fun i : Nat => [(3, iv i), (0, .slice A m c)]) (fun _ => []) (fun i => 1 ≤ i ∧ i ≤ m) (fun i => m - i) 1 (by repeat (first | exact trivial | refine ⟨rfl, ?_⟩)) (Imp.nil _) ⟨by omega, by omega⟩ ?_
 rintro i U ⟨hi1, hi2⟩
 by_cases hlt : i < m
 · obtain ⟨i, rfl⟩ : ∃ z, i = z + 1 := ⟨i - 1, by omega⟩
   have g1 := ldv_get (ld := l) (k := i + 1) (by omega)
   have g2 := ldv_get (ld := l) (k := i) (by omega)
   have hsub : IntKind.i64.wrap (((i + 1 : Nat) : Int) - 1) = (i : Int) := by rw [IntWalk.i64_in _ (by omega)]; omega
   have hne := hi i (by omega)
   refine WC.seq fun K hK => ?_
   refine uS rfl fun K hK => ?_
   iterate 2 refine jm rfl rfl ?_
   refine jn rfl rfl rfl ?_
   refine jt rfl rfl (by omega) ?_
   refine wN hK ?_; clear hK
   refine uT rfl rfl ?_
   refine WC.skip ?_
   (refine hK _ _ ?_; clear hK)
   refine WC.seq fun K hK => ?_
   refine WC.block ?_
   refine WC.seq fun K hK => ?_
   refine WC.quiet rfl (by kernel_rfl) (by decide +kernel) ?_
   iterate 2 refine ym rfl rfl ?_
   refine WQ.want rfl (WQ1.give rfl (g_indexAddr (sz := 1) rfl (.mk rfl rfl) (.mk rfl rfl) rfl rfl rfl (by omega) (fun _ _ => sl_some hv (by omega))) ?_)
   refine yl rfl rfl rfl (rd_sl hv g1) ?_
   iterate 2 refine ym rfl rfl ?_
   refine WQ.want rfl (WQ1.give rfl (g_sub rfl (.mk rfl rfl) (.mk rfl rfl) hsub) ?_)
   refine WQ.want rfl (WQ1.give rfl (g_indexAddr (sz := 1) rfl (.mk rfl rfl) (.mk rfl rfl) rfl rfl rfl (by omega) (fun _ _ => sl_some hv (by omega))) ?_)
   refine yl rfl rfl rfl (rd_sl hv g2) ?_
   refine yf rfl rfl (by omega) ?_
   refine WQ.nil ?_
   (refine hK _ _ ?_; clear hK)
   refine uF rfl rfl ?_
   refine WC.skip ?_
   (refine hK _ _ ?_; clear hK)
   refine WC.region rfl ?_
   refine jm rfl rfl ?_
   refine ji rfl rfl (by omega) ?_
   refine jm rfl rfl ?_
   refine WL.nil ?_
   exact ⟨i + 1 + 1, (by repeat (first | exact trivial | refine ⟨rfl, ?_⟩)), Imp.nil _, ⟨by omega, by omega⟩, by omega⟩
 · obtain rfl : i = m := by omega
   refine WC.seq fun K hK => ?_
   refine uS rfl fun K hK => ?_
   iterate 2 refine jm rfl rfl ?_
   refine jn rfl rfl rfl ?_
   refine jf rfl rfl (by omega) ?_
   refine wN hK ?_; clear hK
   refine uF rfl rfl ?_
   refine WC.exit ?_
   (clear hK; refine hK _ _ ?_; clear hK)
   refine uS rfl fun K hK => ?_
   iterate 2 refine jm rfl rfl ?_
   refine wN hK ?_; clear hK
   refine WC.ret ?_
   exact fun w' hw' => ⟨rfl, hw'.1⟩
abbrev STT : TypeId := 145
abbrev stV (v : Nat) (A : Option Addr) (c : Nat) (rs : List IRow) (t s : Nat) (M : Option Addr) (mc m hs bl : Nat) : Value := .agg #[iv v, .slice A rs.length c, iv t, iv s, .slice M m mc, iv hs, iv bl]
variable {v k r lam t s : Nat} {A : Option Addr} {c : Nat} {rs : List IRow} {M : Option Addr} {mc m hs bl : Nat} {ms : List Mv}
theorem row0 (hd : Dsg v k (ils rs)) : ∃ A0 c0, nth rs 0 = ⟨A0, c0, nth (ils rs) 0⟩ ∧ (nth (ils rs) 0).length = k ∧ 1 ≤ rs.length := by
 have h1 := hd.cnt.1
 have h2 := ils_at (rs := rs) (i := 0) (by omega)
 refine ⟨(nth rs 0).A, (nth rs 0).c, ?_, ?_, h1⟩
 · rw [h2]
 · rw [h2]; exact (hd.row (by omega)).1
set_option maxHeartbeats 1000000 in
theorem swidth_e (w : World) (hd : Dsg v k (ils rs)) (hm : IMat w (.slice A rs.length c) rs) : Calls Tryz.prog 115 #[stV v A c rs t s M mc m hs bl] w fun e w' => e = .returned (iv k) ∧ Below w.heap.size w w' := by
 obtain ⟨A0, c0, e0, hk, h1⟩ := row0 hd
 have hsl := hm.1
 have g0 := irowv_get (rs := rs) (k := 0) (by omega)
 rw [e0] at g0
 unfold IRow.v at g0
 rw [hk] at g0
 refine calls_wc (args := [stV v A c rs t s M mc m hs bl]) [2] [] Tryz.func115 rfl Tryz.ntmps115 rfl rfl rfl rfl (H.refl _) ?_
 refine uS rfl fun K hK => ?_
 refine WL.want rfl (WL1.box rfl rfl (.mk (v := .agg _) rfl rfl) rfl (fun b1 => ?_))
 refine jm rfl rfl ?_
 refine wN hK ?_; clear hK
 refine uS rfl fun K hK => ?_
 iterate 2 refine ja 0 rfl rfl rfl rfl ?_
 refine ja 1 rfl rfl rfl rfl ?_
 refine jl rfl rfl rfl (rd_pt (.head _) rfl) ?_
 refine wG rfl rfl (g_indexAddr (sz := 1) rfl (.mk rfl rfl) (.mk rfl rfl) rfl rfl (show _ = ((0 : Nat) : Int) from rfl) (by omega) (fun _ _ => sl_some hsl (by omega))) ?_
 refine jl rfl rfl rfl (rd_sl hsl g0) ?_
 refine jn rfl rfl rfl ?_
 refine jm rfl rfl ?_
 refine wN hK ?_; clear hK
 refine WC.ret ?_
 exact fun w' hw' => ⟨rfl, hw'.1⟩
set_option maxHeartbeats 1000000 in
theorem shas_e {G p nn : Nat} (w : World) (hd : Dsg v k (ils rs)) (hm : IMat w (.slice A rs.length c) rs) (hn : t * rs.length = nn) (hG : G < nn) (hp : p < k) (hnn : nn ≤ 4096) : Calls Tryz.prog 117 #[stV v A c rs t s M mc m hs bl, iv G, iv p] w fun e w' => e = .returned (.bool true) ∧ Below w.heap.size w w' := by
 have hw1 := fun w' hb => swidth_e (t := t) (s := s) (M := M) (mc := mc) (m := m) (hs := hs) (bl := bl) w' hd (hm.below (w' := w') hb)
 have hcast : (t : Int) * (rs.length : Int) = (nn : Int) := by rw [← hn]; push_cast; rfl
 have hmul : IntKind.i64.wrap ((t : Int) * (rs.length : Int)) = (nn : Int) := by rw [hcast]; exact IntWalk.i64_in _ (by omega)
 refine calls_wc (args := [stV v A c rs t s M mc m hs bl, iv G, iv p]) [6] [] Tryz.func117 rfl Tryz.ntmps117 rfl rfl rfl rfl (H.refl _) ?_
 refine uS rfl fun K hK => ?_
 refine WL.want rfl (WL1.box rfl rfl (.mk (v := .agg _) rfl rfl) rfl (fun b3 => ?_))
 refine jm rfl rfl ?_
 refine wN hK ?_; clear hK
 refine uS rfl fun K hK => ?_
 refine jm rfl rfl ?_
 refine jt rfl rfl (by omega) ?_
 refine jm rfl rfl ?_
 refine qm rfl rfl ?_
 refine qa 0 rfl rfl rfl rfl ?_
 refine qa 2 rfl rfl rfl rfl ?_
 refine ql rfl rfl rfl (rd_pt (.head _) rfl) ?_
 iterate 2 refine qa 0 rfl rfl rfl rfl ?_
 refine qa 1 rfl rfl rfl rfl ?_
 refine ql rfl rfl rfl (rd_pt (.head _) rfl) ?_
 refine qn rfl rfl rfl ?_
 refine qW rfl (WL1.give rfl (g_mul rfl (.mk rfl rfl) (.mk rfl rfl) hmul) ?_)
 refine qt rfl rfl (by omega) ?_
 iterate 2 refine jm rfl rfl ?_
 refine qm rfl rfl ?_
 refine qt rfl rfl (by omega) ?_
 iterate 2 refine jm rfl rfl ?_
 refine qm rfl rfl ?_
 refine qW rfl (WL1.give rfl (g_loadA rfl (.mk rfl rfl) rfl rfl (rdr_pt (.head _) (fun j u h => by simpa using h))) ?_)
 refine qW rfl (WL1.callP rfl rfl rfl (.cons (.mk (v := .agg _) rfl rfl) .nil) (fun w hw => hw1 w hw.1) ?_)
 refine qt rfl rfl (by omega) ?_
 iterate 2 refine jm rfl rfl ?_
 refine wN hK ?_; clear hK
 refine WC.ret ?_
 exact fun w' hw' => ⟨rfl, hw'.1⟩
def hmD (gs : List (List Nat)) (n k G p : Nat) : Nat := nth (nth gs (G % n)) ((p + G / n) % k)
def hmB (gs : List (List Nat)) (n k r G p : Nat) : Nat := G / n * r + rkF gs (G % n) ((p + G / n) % k)
def whD (gs : List (List Nat)) (n k : Nat) (ms : List Mv) (G p : Nat) : Nat := cond (fndB ms G p) (nth ms (posN ms G p)).d (hmD gs n k G p)
def whB (gs : List (List Nat)) (n k r : Nat) (ms : List Mv) (G p : Nat) : Nat := cond (fndB ms G p) (nth ms (posN ms G p)).b (hmB gs n k r G p)
theorem home_e {G p : Nat} (w : World) (hy : Lay v k r lam (ils rs) t s) (hm : IMat w (.slice A rs.length c) rs) (hG : G < t * rs.length) (hp : p < k) : Calls Tryz.prog 62 #[layV v A c rs t s, iv G, iv p] w fun e w' => e = .returned (.tuple #[.agg #[iv (hmD (ils rs) rs.length k G p), iv (hmB (ils rs) rs.length k r G p)], iv 0]) ∧ Below w.heap.size w w' := by
 have h1 := hy.d.cnt.1
 exact lhome_e w hy hm (T := G / rs.length) (g0 := G % rs.length) (by rw [Nat.mul_comm]; exact (Nat.div_add_mod _ _).symm) (Nat.mod_lt _ (by omega)) (Nat.div_lt_of_lt_mul (by rw [Nat.mul_comm]; exact hG)) hp
abbrev plV (d b : Nat) : Value := .agg #[iv d, iv b]
set_option maxHeartbeats 4000000 in
theorem swhere_e {G p : Nat} (w : World) (hy : Lay v k r lam (ils rs) t s) (hm : IMat w (.slice A rs.length c) rs) (hM : Sl w 4 (.slice M m mc) m (mvs ms)) (hl : ms.length = m) (hm1 : m ≤ 1000) (hinc : Inc ms) (hG : G < t * rs.length) (hp : p < k) :
   Calls Tryz.prog 116 #[stV v A c rs t s M mc m hs bl, iv G, iv p] w fun e w' => e = .returned (plV (whD (ils rs) rs.length k ms G p) (whB (ils rs) rs.length k r ms G p)) ∧ Below w.heap.size w w' := by
 have hbs := fun w' hb => bsearch_e (g := G) (p := p) w' (hM.below (w' := w') hb) hl hm1 hinc
 unfold whD whB
 cases hf : fndB ms G p with
 | true =>
   rw [hf] at hbs
   have hq : posN ms G p < m := by unfold fndB at hf; rw [Bool.and_eq_true, decide_eq_true_eq, hl] at hf; exact hf.1
   generalize posN ms G p = q at *
   have gM : ∀ j u, [iv (nth ms q).d, iv (nth ms q).b][j]? = some u → (mvs ms)[q * 4 + 2 + j]? = some u := fun j u h => by
     rw [Nat.add_assoc]
     refine mvs_row (by omega) (2 + j) u ?_
     rw [Nat.add_comm 2 j]; exact h
   show Calls _ _ _ w fun e w' => e = .returned (plV (nth ms q).d (nth ms q).b) ∧ _
   refine calls_wcG (args := [stV v A c rs t s M mc m hs bl, iv G, iv p]) [.cell 6 74] [] Tryz.func116 rfl Tryz.ntmps116 rfl rfl (H.refl _) ?_
   refine uS rfl fun K hK => ?_
   refine WL.want rfl (WL1.box rfl rfl (.mk (v := .agg _) rfl rfl) rfl (fun b3 => ?_))
   refine WL.want rfl (WL1.alloc rfl rfl rfl rfl (fun b6 => ?_))
   refine wN hK ?_; clear hK
   refine WC.seq fun K hK => ?_
   refine uS rfl fun K hK => ?_
   refine ja 4 rfl rfl rfl rfl ?_
   refine jl rfl rfl rfl (rd_pt (.tail _ (.head _)) rfl) ?_
   iterate 2 refine jm rfl rfl ?_
   refine wG rfl rfl (g_build (cs := [_, _]) rfl rfl rfl rfl (.cons (.mk (v := .int _ _) rfl rfl) (.cons (.mk (v := .int _ _) rfl rfl) .nil)) rfl rfl rfl) ?_
   refine WL.want rfl (WL1.callP rfl rfl rfl (.cons (.mk (v := .slice _ _ _) rfl rfl) (.cons (.mk (v := .agg _) rfl rfl) (.cons (.mk (v := .func _ _ _) rfl rfl) .nil))) (fun w hw => hbs w hw.1) ?_)
   iterate 5 refine jm rfl rfl ?_
   refine wN hK ?_; clear hK
   refine uS rfl fun K hK => ?_
   refine jm rfl rfl ?_
   refine wN hK ?_; clear hK
   refine uT rfl rfl ?_
   refine uS rfl fun K hK => ?_
   refine ja 4 rfl rfl rfl rfl ?_
   refine jl rfl rfl rfl (rd_pt (.tail _ (.head _)) rfl) ?_
   refine jm rfl rfl ?_
   refine wG rfl rfl (g_indexAddr (sz := 4) rfl (.mk rfl rfl) (.mk rfl rfl) rfl rfl rfl (by omega) (fun _ _ => sl_some hM (by omega))) ?_
   refine wG rfl rfl (g_fieldAddr (off := 2) rfl (.mk rfl rfl) rfl (fun _ _ => sl_some hM (by omega))) ?_
   refine wG rfl rfl (g_loadA rfl (.mk rfl rfl) rfl rfl (rdr_sl (cs := [iv (nth ms q).d, iv (nth ms q).b]) hM (by omega) gM)) ?_
   refine WL.want rfl (WL1.storeAll rfl rfl (.mk rfl rfl) (.mk rfl rfl) rfl (all1 rfl) (by first | rfl | (simp [Blk.len]; done)) (.head) ?_)
   refine wN hK ?_; clear hK
   refine WC.ret ?_
   exact ⟨_, .cell rfl rfl rfl rfl (by repeat constructor) .nil, fun w' hw' => ⟨rfl, hw'.1⟩⟩
 | false =>
   rw [hf] at hbs
   have gL : ∀ j u, [iv v, .slice A rs.length c, iv t, iv s][j]? = some u → [iv v, .slice A rs.length c, iv t, iv s, .slice M m mc, iv hs, iv bl][0 + (0 + 0 + j)]? = some u := fun j u h => pre_get (es := [.slice M m mc, iv hs, iv bl]) (by omega) h
   have hh := fun w' hb => home_e w' hy (hm.below (w' := w') hb) hG hp
   show Calls _ _ _ w fun e w' => e = .returned (plV (hmD (ils rs) rs.length k G p) (hmB (ils rs) rs.length k r G p)) ∧ _
   generalize hmD (ils rs) rs.length k G p = x at *
   generalize hmB (ils rs) rs.length k r G p = y at *
   refine calls_wcG (args := [stV v A c rs t s M mc m hs bl, iv G, iv p]) [.cell 6 74] [] Tryz.func116 rfl Tryz.ntmps116 rfl rfl (H.refl _) ?_
   refine uS rfl fun K hK => ?_
   refine WL.want rfl (WL1.box rfl rfl (.mk (v := .agg _) rfl rfl) rfl (fun b3 => ?_))
   refine WL.want rfl (WL1.alloc rfl rfl rfl rfl (fun b6 => ?_))
   refine wN hK ?_; clear hK
   refine WC.seq fun K hK => ?_
   refine uS rfl fun K hK => ?_
   refine ja 4 rfl rfl rfl rfl ?_
   refine jl rfl rfl rfl (rd_pt (.tail _ (.head _)) rfl) ?_
   iterate 2 refine jm rfl rfl ?_
   refine wG rfl rfl (g_build (cs := [_, _]) rfl rfl rfl rfl (.cons (.mk (v := .int _ _) rfl rfl) (.cons (.mk (v := .int _ _) rfl rfl) .nil)) rfl rfl rfl) ?_
   refine WL.want rfl (WL1.callP rfl rfl rfl (.cons (.mk (v := .slice _ _ _) rfl rfl) (.cons (.mk (v := .agg _) rfl rfl) (.cons (.mk (v := .func _ _ _) rfl rfl) .nil))) (fun w hw => hbs w hw.1) ?_)
   iterate 5 refine jm rfl rfl ?_
   refine wN hK ?_; clear hK
   refine uS rfl fun K hK => ?_
   refine jm rfl rfl ?_
   refine wN hK ?_; clear hK
   refine uF rfl rfl ?_
   refine WC.skip ?_
   (refine hK _ _ ?_; clear hK)
   refine uS rfl fun K hK => ?_
   refine ja 0 rfl rfl rfl rfl ?_
   refine wG rfl rfl (g_loadA rfl (.mk rfl rfl) rfl rfl (rdr_pt (cs := [iv v, .slice A rs.length c, iv t, iv s]) (by repeat constructor) gL)) ?_
   iterate 2 refine jm rfl rfl ?_
   refine WL.want rfl (WL1.callP rfl rfl rfl (.cons (.mk (v := .agg _) rfl rfl) (.cons (.mk (v := .int _ _) rfl rfl) (.cons (.mk (v := .int _ _) rfl rfl) .nil))) (fun w hw => hh w hw.1) ?_)
   iterate 3 refine jm rfl rfl ?_
   refine WL.want rfl (WL1.alloc rfl rfl rfl rfl (fun b9 => ?_))
   refine WL.want rfl (WL1.storeAll rfl rfl (.mk rfl rfl) (.mk rfl rfl) rfl (all1 rfl) (by first | rfl | (simp [Blk.len]; done)) (.head) ?_)
   refine jm rfl rfl ?_
   refine wN hK ?_; clear hK
   refine uS rfl fun K hK => ?_
   refine wG rfl rfl (g_loadA rfl (.mk rfl rfl) rfl rfl (rdr_pt (.head _) (fun j u h => by simpa using h))) ?_
   refine WL.want rfl (WL1.storeAll rfl rfl (.mk rfl rfl) (.mk rfl rfl) rfl (all1 rfl) (by first | rfl | (simp [Blk.len]; done)) (.tail (.head)) ?_)
   refine wN hK ?_; clear hK
   refine WC.ret ?_
   exact ⟨_, .cell rfl rfl rfl rfl (by repeat constructor) .nil, fun w' hw' => ⟨rfl, hw'.1⟩⟩
end Go.Proofs.YtdcijljfgcjelaaGreat
namespace Go.Proofs.YtdcijljfgcjelaaGreat
set_option maxRecDepth 20000
open Go.RowKit
attribute [local irreducible] Calls
def bsL (gs : List (List Nat)) (n k G i : Nat) : List Nat := (List.range i).map fun j => nth (nth gs (G % n)) ((j + G / n) % k)
def dsk1 (ms : List Mv) (G : Nat) (base : List Nat) : List Nat := cond (Nat.blt (posN ms G 0) ms.length && Nat.beq (nth ms (posN ms G 0)).g G) (base.set (nth ms (posN ms G 0)).p (nth ms (posN ms G 0)).d) base
def dskL (gs : List (List Nat)) (n k : Nat) (ms : List Mv) (G : Nat) : List Nat := dsk1 ms G (bsL gs n k G k)
theorem bsL_len (gs : List (List Nat)) (n k G i : Nat) : (bsL gs n k G i).length = i := by simp [bsL]
theorem bsL_snoc (gs : List (List Nat)) (n k G i : Nat) : bsL gs n k G (i + 1) = bsL gs n k G i ++ [nth (nth gs (G % n)) ((i + G / n) % k)] := by simp [bsL, List.range_succ]
theorem dskL_len (gs : List (List Nat)) (n k : Nat) (ms : List Mv) (G : Nat) : (dskL gs n k ms G).length = k := by
 unfold dskL dsk1
 cases (Nat.blt (posN ms G 0) ms.length && Nat.beq (nth ms (posN ms G 0)).g G) with
 | true => rw [cond_true, List.length_set, bsL_len]
 | false => rw [cond_false, bsL_len]
variable {v k r lam t s : Nat} {A : Option Addr} {c : Nat} {rs : List IRow} {M : Option Addr} {mc m hs bl : Nat} {ms : List Mv}
set_option maxHeartbeats 8000000 in
theorem disks_n {G : Nat} (w : World) (hd : Dsg v k (ils rs)) (hm : IMat w (.slice A rs.length c) rs) (hM : Sl w 4 (.slice M m mc) m (mvs ms)) (hl : ms.length = m) (hm1 : m ≤ 1000) (hinc : Inc ms) (hpk : ∀ i, i < m → (nth ms i).p < k) (hG : G ≤ 100000) :
   Calls Tryz.prog 112 #[stV v A c rs t s M mc m hs bl, iv G] w fun e w' => ∃ u N, e = .returned u ∧ H w N w' ∧ ∃ F fc, u = .slice F k fc ∧ N = [vec F k fc 3 1 (ldv (dskL (ils rs) rs.length k ms G))] := by
 have hcn := hd.cnt
 have hk2 := hd.k2
 have hk60 := hd.k60
 have hwd := fun w' hb => swidth_e (t := t) (s := s) (M := M) (mc := mc) (m := m) (hs := hs) (bl := bl) w' hd (hm.below (w' := w') hb)
 have hbs := fun w' hb => bsearch_e (g := G) (p := 0) w' (hM.below (w' := w') hb) hl hm1 hinc
 have hsl := hm.1
 have hg0 : G % rs.length < rs.length := Nat.mod_lt _ (by omega)
 have gR := irowv_get (rs := rs) (k := G % rs.length) hg0
 obtain ⟨A0, c0, e0, hr0⟩ := irow_at hm hg0
 have hrl := (hd.row hg0).1
 have hrl2 : (nth (ils rs) (G % rs.length)).length = k := by rw [ils_at hg0]; exact hrl
 rw [e0] at gR
 unfold IRow.v at gR
 rw [hrl2] at gR hr0
 have hrem : (G : Int).tmod (rs.length : Int) = ((G % rs.length : Nat) : Int) := by rw [Int.tmod_eq_emod_of_nonneg (by omega)]; rfl
 have hT : G / rs.length ≤ G := Nat.div_le_self _ _
 have hquo : IntKind.i64.wrap ((G : Int).tdiv (rs.length : Int)) = ((G / rs.length : Nat) : Int) := by
   have e : (G : Int).tdiv (rs.length : Int) = ((G / rs.length : Nat) : Int) := by rw [Int.tdiv_eq_ediv_of_nonneg (by omega)]; rfl
   rw [e]
   generalize G / rs.length = T at hT ⊢
   exact IntWalk.i64_in _ (by omega)
 have hbb := bsL_snoc (ils rs) rs.length k G
 unfold dskL
 have hb0 : ldv (bsL (ils rs) rs.length k G 0) = [] := rfl
 have hbll := bsL_len (ils rs) rs.length k G
 generalize hB : bsL (ils rs) rs.length k G = bs at *
 generalize hTT : G / rs.length = T at *
 generalize hQ : G % rs.length = Q at *
 generalize hrow : nth (ils rs) Q = row at *
 obtain ⟨n, hn⟩ : ∃ n, n = rs.length := ⟨_, rfl⟩
 refine calls_wc (args := [stV v A c rs t s M mc m hs bl, iv G]) [4] [] Tryz.func112 rfl Tryz.ntmps112 rfl rfl rfl rfl (H.refl _) ?_
 refine uS rfl fun K hK => ?_
 refine WL.want rfl (WL1.box rfl rfl (.mk (v := .agg _) rfl rfl) rfl (fun b2 => ?_))
 refine jm rfl rfl ?_
 refine wN hK ?_; clear hK
 refine uS rfl fun K hK => ?_
 iterate 2 refine ja 0 rfl rfl rfl rfl ?_
 refine ja 1 rfl rfl rfl rfl ?_
 refine jl rfl rfl rfl (rd_pt (.head _) rfl) ?_
 refine jn rfl rfl rfl ?_
 refine jm rfl rfl ?_
 refine wN hK ?_; clear hK
 refine WC.seq fun K hK => ?_
 refine WC.quiet rfl (by kernel_rfl) (by decide +kernel) ?_
 iterate 2 refine ya 0 rfl rfl rfl rfl ?_
 refine ya 1 rfl rfl rfl rfl ?_
 refine yl rfl rfl rfl (rd_pt (.head _) rfl) ?_
 iterate 2 refine ym rfl rfl ?_
 refine WQ.want rfl (WQ1.give rfl (g_rem rfl (.mk rfl rfl) (.mk rfl rfl) (by omega) hrem) ?_)
 refine WQ.want rfl (WQ1.give rfl (g_indexAddr (sz := 1) rfl (.mk rfl rfl) (.mk rfl rfl) rfl rfl rfl (by omega) (fun _ _ => sl_some hsl (by omega))) ?_)
 refine yl rfl rfl rfl (rd_sl hsl gR) ?_
 refine ym rfl rfl ?_
 refine WQ.nil ?_
 (refine hK _ _ ?_; clear hK)
 refine uS rfl fun K hK => ?_
 refine jm rfl rfl ?_
 refine wN hK ?_; clear hK
 refine WC.seq fun K hK => ?_
 refine uS rfl fun K hK => ?_
 refine wG rfl rfl (g_loadA rfl (.mk rfl rfl) rfl rfl (rdr_pt (.head _) (fun j u h => by simpa using h))) ?_
 refine WL.want rfl (WL1.callP rfl rfl rfl (.cons (.mk (v := .agg _) rfl rfl) .nil) (fun w hw => hwd w hw.1) ?_)
 refine jm rfl rfl ?_
 refine wN hK ?_; clear hK
 refine WC.block ?_
 refine WC.nilvec 3 1 ?_
 refine WC.loopF3 (fun (i : Nat) (F : Option Addr) (fc : Nat) => [(27, iv i), (26, iv k), (7, .slice F i fc), (6, .slice A0 k c0), (5, iv rs.length), (1, iv G), (2, cellPtr (some ⟨b2, 0, none⟩) 0)]) (fun i F fc => [vec F i fc 3 1 (ldv (bs i)), pt b2 STT [iv v, .slice A rs.length c, iv t, iv s, .slice M m mc, iv hs, iv bl]]) (fun i _ _ => i ≤ k) (fun i _ _ => k - i) 0 none 0 (by repeat (first | exact trivial | refine ⟨rfl, ?_⟩)) (by rw [hb0]; exact Imp.pick (by repeat constructor) (Imp.pick (by repeat constructor) (Imp.nil _))) (by omega) ?_
 intro i F fc U hi
 by_cases hlt : i < k
 · have hrem2 : ((i : Int) + (T : Int)).tmod (k : Int) = (((i + T) % k : Nat) : Int) := by rw [Int.tmod_eq_emod_of_nonneg (by omega), show (i : Int) + (T : Int) = ((i + T : Nat) : Int) from by omega]; rfl
   have hsn := hbb i
   have hz : (i + T) % k < k := Nat.mod_lt _ (by omega)
   have gv := ldv_get (ld := row) (k := (i + T) % k) (by omega)
   generalize (i + T) % k = z at *
   refine uS rfl fun K hK => ?_
   refine jt rfl rfl (by omega) ?_
   refine wN hK ?_; clear hK
   refine WC.seq fun K hK => ?_
   refine uT rfl rfl ?_
   refine WC.skip ?_
   (refine hK _ _ ?_; clear hK)
   refine WC.seq fun K hK => ?_
   refine WC.block ?_
   refine uS rfl fun K hK => ?_
   iterate 2 refine jm rfl rfl ?_
   refine wN hK ?_; clear hK
   refine WC.split 0 rfl (by kernel_rfl) (by decide +kernel) ?_
   refine WQ.nil ?_
   refine uY 0 rfl (by decide +kernel) rfl (Gm rfl) ?_
   refine uY 1 rfl (by decide +kernel) rfl (Gm rfl) ?_
   refine uY 2 rfl (by decide +kernel) rfl (Gm rfl) ?_
   refine uY 3 rfl (by decide +kernel) rfl (Gm rfl) ?_
   refine uY 4 rfl (by decide +kernel) rfl (Gm rfl) ?_
   refine uY 5 rfl (by decide +kernel) rfl ⟨rfl, g_quo rfl (.mk rfl rfl) (.mk rfl rfl) (by omega) hquo⟩ ?_
   refine uY 6 rfl (by decide +kernel) rfl (Gi rfl (by omega)) ?_
   refine WY.one 7 (by decide +kernel) rfl rfl ?_
   refine WL1.give rfl (g_loadA rfl (.mk rfl rfl) rfl rfl (rdr_pt (.tail _ (.head _)) (fun j u h => by simpa using h))) ?_
   refine WL.nil ?_
   refine WY.one 8 (by decide +kernel) rfl rfl ?_
   refine WL1.callP rfl rfl rfl (.cons (.mk (v := .agg _) rfl rfl) .nil) (fun w hw => hwd w hw.1) ?_
   refine WL.nil ?_
   refine uY 9 rfl (by decide +kernel) rfl ⟨rfl, g_rem rfl (.mk rfl rfl) (.mk rfl rfl) (by omega) hrem2⟩ ?_
   refine uY 10 rfl (by decide +kernel) rfl ⟨rfl, g_indexAddr (sz := 1) rfl (.mk rfl rfl) (.mk rfl rfl) rfl rfl rfl (by omega) (fun _ _ => sl_some hr0 (by omega))⟩ ?_
   refine WY.one 11 (by decide +kernel) rfl rfl ?_
   refine WL1.give rfl (g_load rfl (.mk rfl rfl) rfl (rd_sl hr0 gv)) ?_
   refine WL.nil ?_
   refine WY.one 12 (by decide +kernel) rfl rfl ?_
   refine WL1.lit (cs := [_]) elI rfl rfl rfl (.cons (.mk (v := .int _ _) rfl rfl) .nil) rfl (by first | (simp [Value.cells]; done) | fail) rfl rfl (fun b42 => ?_)
   refine WL.nil ?_
   refine WY.one 13 (by decide +kernel) rfl rfl ?_
   refine WL1.append elI rfl rfl (.mk rfl rfl) (.mk rfl rfl) (.tail (.head)) (fun w hw => Sl.of_vec hw (.head _)) (all1 rfl) (by unfold maxLen; omega) (by omega) (fun A43 c43 => ?_)
   refine WL.nil ?_
   refine uY 14 rfl (by decide +kernel) rfl (Gm rfl) ?_
   refine WY.done (by decide +kernel) ?_
   (refine hK _ _ ?_; clear hK)
   refine WC.region rfl ?_
   refine ji rfl rfl (by omega) ?_
   refine jm rfl rfl ?_
   refine WL.nil ?_
   refine ⟨i + 1, A43, c43, (by repeat (first | exact trivial | refine ⟨rfl, ?_⟩)), ?_, by omega, by omega⟩
   rw [hsn, ← ldv_snoc]
   exact Imp.pick (by repeat constructor) (Imp.pick (by repeat constructor) (Imp.nil _))
 obtain rfl : i = k := by omega
 refine uS rfl fun K hK => ?_
 refine jf rfl rfl (by omega) ?_
 refine wN hK ?_; clear hK
 refine WC.seq fun K hK => ?_
 refine uF rfl rfl ?_
 refine WC.exit ?_
 (clear hK; refine hK _ _ ?_; clear hK)
 refine uS rfl fun K hK => ?_
 refine ja 4 rfl rfl rfl rfl ?_
 refine jl rfl rfl rfl (rd_pt (.tail _ (.head _)) rfl) ?_
 refine jm rfl rfl ?_
 refine wG rfl rfl (g_build (cs := [_, _]) rfl rfl rfl rfl (.cons (.mk (v := .int _ _) rfl rfl) .nil) rfl rfl rfl) ?_
 refine WL.want rfl (WL1.callP rfl rfl rfl (.cons (.mk (v := .slice _ _ _) rfl rfl) (.cons (.mk (v := .agg _) rfl rfl) (.cons (.mk (v := .func _ _ _) rfl rfl) .nil))) (fun w hw => hbs w hw.1) ?_)
 iterate 5 refine jm rfl rfl ?_
 refine wN hK ?_; clear hK
 refine WC.seq fun K hK => ?_
 refine WC.block ?_
 have hbsl := hbll i
 generalize hb : bs i = base at *
 obtain ⟨q, hq⟩ : ∃ q, q = posN ms G 0 := ⟨_, rfl⟩
 rw [← hq]
 have hds : dsk1 ms G base = cond (Nat.blt q m && Nat.beq (nth ms q).g G) (base.set (nth ms q).p (nth ms q).d) base := by unfold dsk1; rw [← hq, hl]
 by_cases hmt : q < m ∧ (nth ms q).g = G
 · have hds2 : dsk1 ms G base = base.set (nth ms q).p (nth ms q).d := by
     rw [hds, blt_iff, decide_eq_true hmt.1, show Nat.beq (nth ms q).g G = true from by rw [hmt.2]; exact Nat.beq_refl G]; rfl
   have gg := mvs_row (l := ms) (k := q) (by omega) 0 _ rfl
   have gp := mvs_row (l := ms) (k := q) (by omega) 1 _ rfl
   have gd := mvs_row (l := ms) (k := q) (by omega) 2 _ rfl
   have hp := hpk q hmt.1
   have hblen : (ldv base).length = i := by rw [ldv_len, hbsl]
   refine WC.loopF (fun z : Nat => [(9, iv ((q + z : Nat) : Int)), (7, .slice F i fc), (1, iv G), (2, cellPtr (some ⟨b2, 0, none⟩) 0)]) (fun z => [vec F i fc 3 1 (ldv (if z = 0 then base else base.set (nth ms q).p (nth ms q).d)), pt b2 STT [iv v, .slice A rs.length c, iv t, iv s, .slice M m mc, iv hs, iv bl]]) (fun z => z ≤ 1) (fun z => 1 - z) 0 (by repeat (first | exact trivial | refine ⟨rfl, ?_⟩)) (by rw [if_pos rfl]; exact Imp.pick (by repeat constructor) (Imp.pick (by repeat constructor) (Imp.nil _))) (by omega) ?_
   intro z U2 hz
   by_cases hz0 : z = 0
   · subst hz0
     rw [if_pos rfl, Nat.add_zero]
     have hgg := hmt.2
     have hst : ∀ x, x = (nth ms q).p * 1 → (ldv base).set x (iv (nth ms q).d) = ldv (base.set (nth ms q).p (nth ms q).d) := fun x hx => ldv_sets hx
     refine WC.seq fun K hK => ?_
     refine uS rfl fun K hK => ?_
     refine jm rfl rfl ?_
     refine ja 4 rfl rfl rfl rfl ?_
     refine jl rfl rfl rfl (rd_pt (.tail _ (.head _)) rfl) ?_
     refine jn rfl rfl rfl ?_
     refine jt rfl rfl (by omega) ?_
     refine jm rfl rfl ?_
     refine qa 4 rfl rfl rfl rfl ?_
     refine ql rfl rfl rfl (rd_pt (.tail _ (.head _)) rfl) ?_
     refine qm rfl rfl ?_
     refine qW rfl (WL1.give rfl (g_indexAddr (sz := 4) rfl (.mk rfl rfl) (.mk rfl rfl) rfl rfl rfl (by omega) (fun _ _ => sl_some hM (by omega))) ?_)
     refine qW rfl (WL1.give rfl (g_fieldAddr (off := 0) rfl (.mk rfl rfl) rfl (fun _ _ => sl_some hM (by omega))) ?_)
     refine ql rfl rfl rfl (rd_sl hM (ix gg (by omega))) ?_
     refine qm rfl rfl ?_
     refine qt rfl rfl (by omega) ?_
     refine jm rfl rfl ?_
     refine wN hK ?_; clear hK
     refine uT rfl rfl ?_
     refine WC.skip ?_
     (refine hK _ _ ?_; clear hK)
     refine WC.seq fun K hK => ?_
     refine WC.block ?_
     refine WC.untilL [15] rfl (by kernel_rfl) ?_
     refine uP 0 rfl (by decide +kernel) (.inr (iS (by repeat constructor))) rfl rfl ?_
     refine uG 1 rfl (by decide +kernel) (.inr (iS (by repeat constructor))) rfl (Ga 4 rfl rfl rfl) ?_
     refine uB 2 rfl (by decide +kernel) (iS (by repeat constructor)) rfl (Gl rfl rfl (rd_pt (.tail _ (.head _)) rfl)) ?_
     refine uP 3 rfl (by decide +kernel) (.inr (iS (by repeat constructor))) rfl rfl ?_
     refine uG 4 rfl (by decide +kernel) (.inr (iS (by repeat constructor))) rfl ⟨rfl, g_indexAddr (sz := 4) rfl (.mk rfl rfl) (.mk rfl rfl) rfl rfl rfl (by omega) (fun _ _ => sl_some hM (by omega))⟩ ?_
     refine uG 5 rfl (by decide +kernel) (.inr (iS (by repeat constructor))) rfl ⟨rfl, g_fieldAddr (off := 1) rfl (.mk rfl rfl) rfl (fun _ _ => sl_some hM (by omega))⟩ ?_
     refine uB 6 rfl (by decide +kernel) (iS (by repeat constructor)) rfl (Gl rfl rfl (rd_sl hM (ix gp (by omega)))) ?_
     refine uG 7 rfl (by decide +kernel) (.inr (iS (by repeat constructor))) rfl (Ga 4 rfl rfl rfl) ?_
     refine uB 8 rfl (by decide +kernel) (iS (by repeat constructor)) rfl (Gl rfl rfl (rd_pt (.tail _ (.head _)) rfl)) ?_
     refine uP 9 rfl (by decide +kernel) (.inr (iS (by repeat constructor))) rfl rfl ?_
     refine uG 10 rfl (by decide +kernel) (.inr (iS (by repeat constructor))) rfl ⟨rfl, g_indexAddr (sz := 4) rfl (.mk rfl rfl) (.mk rfl rfl) rfl rfl rfl (by omega) (fun _ _ => sl_some hM (by omega))⟩ ?_
     refine uG 11 rfl (by decide +kernel) (.inr (iS (by repeat constructor))) rfl ⟨rfl, g_fieldAddr (off := 2) rfl (.mk rfl rfl) rfl (fun _ _ => sl_some hM (by omega))⟩ ?_
     refine uG 12 rfl (by decide +kernel) (.inr (iS (by repeat constructor))) rfl ⟨rfl, g_fieldAddr (off := 0) rfl (.mk rfl rfl) rfl (fun _ _ => sl_some hM (by omega))⟩ ?_
     refine uB 13 rfl (by decide +kernel) (iS (by repeat constructor)) rfl (Gl rfl rfl (rd_sl hM (ix gd (by omega)))) ?_
     refine uB 14 rfl (by decide +kernel) (iS (by repeat constructor)) rfl ⟨rfl, g_indexAddr (sz := 1) rfl (.mk rfl rfl) (.mk rfl rfl) rfl rfl rfl (by omega) (fun w hw => vec_some hw (.head _) (by omega))⟩ ?_
     refine WB.one 15 (by decide +kernel) rfl rfl ?_
     refine WL1.storeV1 rfl rfl (.mk rfl rfl) (.mk (v := .int _ _) rfl rfl) rfl rfl (by first | omega | (simp; done) | (simp; omega)) (.head) ?_
     refine WL.nil ?_
     refine ⟨.inl (by decide +kernel), ?_⟩
     refine WB.done (by decide +kernel) ?_
     (refine hK _ _ ?_; clear hK)
     refine WC.region rfl ?_
     refine jm rfl rfl ?_
     refine ji rfl rfl (by omega) ?_
     refine jm rfl rfl ?_
     refine WL.nil ?_
     refine ⟨1, (by repeat (first | exact trivial | refine ⟨rfl, ?_⟩)), ?_, by omega, by omega⟩
     rw [if_neg (by omega), ← hst _ rfl]
     exact Imp.pick (by repeat constructor) (Imp.pick (by repeat constructor) (Imp.nil _))
   · obtain rfl : z = 1 := by omega
     rw [if_neg (by omega), ← hds2]
     by_cases hq1 : q + 1 < m
     · have gg1 := mvs_row (l := ms) (k := q + 1) (by omega) 0 _ rfl
       have hne : (nth ms (q + 1)).g ≠ G := by have := hinc q (by omega); omega
       refine WC.seq fun K hK => ?_
       refine uS rfl fun K hK => ?_
       refine jm rfl rfl ?_
       refine ja 4 rfl rfl rfl rfl ?_
       refine jl rfl rfl rfl (rd_pt (.tail _ (.head _)) rfl) ?_
       refine jn rfl rfl rfl ?_
       refine jt rfl rfl (by omega) ?_
       refine jm rfl rfl ?_
       refine qa 4 rfl rfl rfl rfl ?_
       refine ql rfl rfl rfl (rd_pt (.tail _ (.head _)) rfl) ?_
       refine qm rfl rfl ?_
       refine qW rfl (WL1.give rfl (g_indexAddr (sz := 4) rfl (.mk rfl rfl) (.mk rfl rfl) rfl rfl rfl (by omega) (fun _ _ => sl_some hM (by omega))) ?_)
       refine qW rfl (WL1.give rfl (g_fieldAddr (off := 0) rfl (.mk rfl rfl) rfl (fun _ _ => sl_some hM (by omega))) ?_)
       refine ql rfl rfl rfl (rd_sl hM (ix gg1 (by omega))) ?_
       refine qm rfl rfl ?_
       refine qf rfl rfl (by omega) ?_
       refine jm rfl rfl ?_
       refine wN hK ?_; clear hK
       refine uF rfl rfl ?_
       refine WC.exit ?_
       (clear hK; refine hK _ _ ?_; clear hK)
       refine uS rfl fun K hK => ?_
       iterate 2 refine jm rfl rfl ?_
       refine wN hK ?_; clear hK
       refine WC.ret ?_
       exact fun w' hw' => ⟨_, _, rfl, (Imp.pick (by repeat constructor) (Imp.nil _)).h hw', F, fc, rfl, rfl⟩
     · refine WC.seq fun K hK => ?_
       refine uS rfl fun K hK => ?_
       refine jm rfl rfl ?_
       refine ja 4 rfl rfl rfl rfl ?_
       refine jl rfl rfl rfl (rd_pt (.tail _ (.head _)) rfl) ?_
       refine jn rfl rfl rfl ?_
       refine jf rfl rfl (by omega) ?_
       refine jm rfl rfl ?_
       iterate 8 refine ut rfl rfl ?_
       refine jm rfl rfl ?_
       refine wN hK ?_; clear hK
       refine uF rfl rfl ?_
       refine WC.exit ?_
       (clear hK; refine hK _ _ ?_; clear hK)
       refine uS rfl fun K hK => ?_
       iterate 2 refine jm rfl rfl ?_
       refine wN hK ?_; clear hK
       refine WC.ret ?_
       exact fun w' hw' => ⟨_, _, rfl, (Imp.pick (by repeat constructor) (Imp.nil _)).h hw', F, fc, rfl, rfl⟩
 · have hds2 : dsk1 ms G base = base := by
     rw [hds]
     by_cases h1 : q < m
     · have h2 : (nth ms q).g ≠ G := fun h => hmt ⟨h1, h⟩
       have : Nat.beq (nth ms q).g G = false := by
         cases e : Nat.beq (nth ms q).g G with
         | false => rfl
         | true => exact absurd (Nat.eq_of_beq_eq_true e) h2
       rw [this, Bool.and_false]; rfl
     · rw [blt_iff, decide_eq_false h1]; rfl
   refine WC.loopF (fun _ : Nat => [(9, iv q), (7, .slice F i fc), (1, iv G), (2, cellPtr (some ⟨b2, 0, none⟩) 0)]) (fun _ => [vec F i fc 3 1 (ldv base), pt b2 STT [iv v, .slice A rs.length c, iv t, iv s, .slice M m mc, iv hs, iv bl]]) (fun z => z = 0) (fun z => z) 0 (by repeat (first | exact trivial | refine ⟨rfl, ?_⟩)) (Imp.pick (by repeat constructor) (Imp.pick (by repeat constructor) (Imp.nil _))) rfl ?_
   intro z U2 hz
   rw [← hds2]
   by_cases h1 : q < m
   · have gg := mvs_row (l := ms) (k := q) (by omega) 0 _ rfl
     have h2 : (nth ms q).g ≠ G := fun h => hmt ⟨h1, h⟩
     refine WC.seq fun K hK => ?_
     refine uS rfl fun K hK => ?_
     refine jm rfl rfl ?_
     refine ja 4 rfl rfl rfl rfl ?_
     refine jl rfl rfl rfl (rd_pt (.tail _ (.head _)) rfl) ?_
     refine jn rfl rfl rfl ?_
     refine jt rfl rfl (by omega) ?_
     refine jm rfl rfl ?_
     refine qa 4 rfl rfl rfl rfl ?_
     refine ql rfl rfl rfl (rd_pt (.tail _ (.head _)) rfl) ?_
     refine qm rfl rfl ?_
     refine qW rfl (WL1.give rfl (g_indexAddr (sz := 4) rfl (.mk rfl rfl) (.mk rfl rfl) rfl rfl rfl (by omega) (fun _ _ => sl_some hM (by omega))) ?_)
     refine qW rfl (WL1.give rfl (g_fieldAddr (off := 0) rfl (.mk rfl rfl) rfl (fun _ _ => sl_some hM (by omega))) ?_)
     refine ql rfl rfl rfl (rd_sl hM (ix gg (by omega))) ?_
     refine qm rfl rfl ?_
     refine qf rfl rfl (by omega) ?_
     refine jm rfl rfl ?_
     refine wN hK ?_; clear hK
     refine uF rfl rfl ?_
     refine WC.exit ?_
     (clear hK; refine hK _ _ ?_; clear hK)
     refine uS rfl fun K hK => ?_
     iterate 2 refine jm rfl rfl ?_
     refine wN hK ?_; clear hK
     refine WC.ret ?_
     exact fun w' hw' => ⟨_, _, rfl, (Imp.pick (by repeat constructor) (Imp.nil _)).h hw', F, fc, rfl, rfl⟩
   · refine WC.seq fun K hK => ?_
     refine uS rfl fun K hK => ?_
     refine jm rfl rfl ?_
     refine ja 4 rfl rfl rfl rfl ?_
     refine jl rfl rfl rfl (rd_pt (.tail _ (.head _)) rfl) ?_
     refine jn rfl rfl rfl ?_
     refine jf rfl rfl (by omega) ?_
     refine jm rfl rfl ?_
     iterate 8 refine ut rfl rfl ?_
     refine jm rfl rfl ?_
     refine wN hK ?_; clear hK
     refine uF rfl rfl ?_
     refine WC.exit ?_
     (clear hK; refine hK _ _ ?_; clear hK)
     refine uS rfl fun K hK => ?_
     iterate 2 refine jm rfl rfl ?_
     refine wN hK ?_; clear hK
     refine WC.ret ?_
     exact fun w' hw' => ⟨_, _, rfl, (Imp.pick (by repeat constructor) (Imp.nil _)).h hw', F, fc, rfl, rfl⟩
end Go.Proofs.YtdcijljfgcjelaaGreat
namespace Go.Proofs.YtdcijljfgcjelaaGreat
set_option maxRecDepth 20000
open Go.RowKit
attribute [local irreducible] Calls
variable {v k r lam t s : Nat} {A : Option Addr} {c : Nat} {rs : List IRow} {M : Option Addr} {mc m hs bl : Nat} {ms : List Mv}
set_option maxHeartbeats 4000000 in
theorem apart_e {G : Nat} (w : World) (hd : Dsg v k (ils rs)) (hm : IMat w (.slice A rs.length c) rs) (hM : Sl w 4 (.slice M m mc) m (mvs ms)) (hl : ms.length = m) (hm1 : m ≤ 1000) (hinc : Inc ms) (hpk : ∀ i, i < m → (nth ms i).p < k) (hG : G ≤ 100000) (hk12 : k ≤ 12) (hap : SInc (isort (dskL (ils rs) rs.length k ms G))) :
   Calls Tryz.prog 68 #[stV v A c rs t s M mc m hs bl, iv G] w fun e w' => e = .returned (.bool true) ∧ Below w.heap.size w w' := by
 have hdk := fun w' hb => disks_n (t := t) (s := s) (hs := hs) (bl := bl) w' hd (hm.below (w' := w') hb) (hM.below hb) hl hm1 hinc hpk hG
 have hwd := fun w' hb => swidth_e (t := t) (s := s) (M := M) (mc := mc) (m := m) (hs := hs) (bl := bl) w' hd (hm.below (w' := w') hb)
 have hlen := dskL_len (ils rs) rs.length k ms G
 have hlen2 := isort_len (dskL (ils rs) rs.length k ms G)
 rw [hlen] at hlen2
 generalize dskL (ils rs) rs.length k ms G = D at *
 refine calls_wc (args := [stV v A c rs t s M mc m hs bl, iv G]) [4] [] Tryz.func68 rfl Tryz.ntmps68 rfl rfl rfl rfl (H.refl _) ?_
 refine uS rfl fun K hK => ?_
 refine WL.want rfl (WL1.box rfl rfl (.mk (v := .agg _) rfl rfl) rfl (fun b2 => ?_))
 refine jm rfl rfl ?_
 refine wN hK ?_; clear hK
 refine uS rfl fun K hK => ?_
 refine wG rfl rfl (g_loadA rfl (.mk rfl rfl) rfl rfl (rdr_pt (.head _) (fun j u h => by simpa using h))) ?_
 refine jm rfl rfl ?_
 (refine WL.want rfl (WL1.callN rfl rfl rfl (.cons (.mk (v := .agg _) rfl rfl) (.cons (.mk (v := .int _ _) rfl rfl) .nil)) (fun w hw => hdk w hw.1) ?_); rintro _ _ ⟨F, fc, rfl, rfl⟩)
 refine jm rfl rfl ?_
 refine wN hK ?_; clear hK
 refine uS rfl fun K hK => ?_
 refine jm rfl rfl ?_
 (refine WL.want rfl (WL1.callF rfl rfl rfl (.cons (.mk (v := .slice _ _ _) rfl rfl) .nil) (fun w hw => sort_f (l := D) hlen hk12 hw) ?_); rintro _ _ ⟨rfl, rfl⟩)
 refine wN hK ?_; clear hK
 refine WC.seq fun K hK => ?_
 refine WC.quiet rfl (by kernel_rfl) (by decide +kernel) ?_
 refine ym rfl rfl ?_
 refine WQ.want rfl (WQ1.callP rfl rfl rfl (.cons (.mk (v := .slice _ _ _) rfl rfl) .nil) (fun w hw => compact_e w (Sl.of_vec hw (by repeat constructor)) hlen2 (by omega) hap) ?_)
 refine yn rfl rfl rfl ?_
 refine WQ.want rfl (WQ1.give rfl (g_loadA rfl (.mk rfl rfl) rfl rfl (rdr_pt (.tail _ (.head _)) (fun j u h => by simpa using h))) ?_)
 refine WQ.want rfl (WQ1.callP rfl rfl rfl (.cons (.mk (v := .agg _) rfl rfl) .nil) (fun w hw => hwd w hw.1) ?_)
 refine yt rfl rfl (by omega) ?_
 refine ym rfl rfl ?_
 refine WQ.nil ?_
 (refine hK _ _ ?_; clear hK)
 refine WC.ret ?_
 exact fun w' hw' => ⟨rfl, hw'.1⟩
def usL : List Mv → Nat → List Nat
 | [], _ => []
 | m :: ms, d => cond (Nat.beq m.d d) (m.b :: usL ms d) (usL ms d)
theorem usL_app : ∀ (l q : List Mv) (d : Nat), usL (l ++ q) d = usL l d ++ usL q d
 | [], q, d => rfl
 | m :: l, q, d => by
   rw [List.cons_append, usL, usL, usL_app l]
   cases Nat.beq m.d d <;> rfl
theorem usL_len : ∀ (l : List Mv) (d : Nat), (usL l d).length ≤ l.length
 | [], _ => Nat.le_refl _
 | m :: l, d => by
   have ih := usL_len l d
   rw [usL, List.length_cons]
   cases Nat.beq m.d d with
   | true => rw [cond_true, List.length_cons]; omega
   | false => rw [cond_false]; omega
theorem nbeq_iff {a b : Nat} : Nat.beq a b = decide (a = b) := by
 by_cases h : a = b
 · subst h; rw [Nat.beq_refl]; simp
 · rw [decide_eq_false h]
   cases e : Nat.beq a b with
   | false => rfl
   | true => exact absurd (Nat.eq_of_beq_eq_true e) h
theorem usL_snoc (l : List Mv) (m : Mv) (d : Nat) : usL (l ++ [m]) d = if m.d = d then usL l d ++ [m.b] else usL l d := by
 rw [usL_app, usL, usL, nbeq_iff]
 by_cases h : m.d = d
 · rw [if_pos h, decide_eq_true h]; rfl
 · rw [if_neg h, decide_eq_false h]; simp
set_option maxHeartbeats 4000000 in
theorem used_n {d : Nat} (w : World) (hM : Sl w 4 (.slice M m mc) m (mvs ms)) (hl : ms.length = m) (hm1 : m ≤ 1000) (h12 : (usL ms d).length ≤ 12) :
   Calls Tryz.prog 154 #[stV v A c rs t s M mc m hs bl, iv d] w fun e w' => ∃ u N, e = .returned u ∧ H w N w' ∧ ∃ F fc, u = .slice F (usL ms d).length fc ∧ N = [vec F (usL ms d).length fc 3 1 (ldv (isort (usL ms d)))] := by
 refine calls_wc (args := [stV v A c rs t s M mc m hs bl, iv d]) [4] [] Tryz.func154 rfl Tryz.ntmps154 rfl rfl rfl rfl (H.refl _) ?_
 refine uS rfl fun K hK => ?_
 refine WL.want rfl (WL1.box rfl rfl (.mk (v := .agg _) rfl rfl) rfl (fun b2 => ?_))
 refine jm rfl rfl ?_
 refine wN hK ?_; clear hK
 refine uS rfl fun K hK => ?_
 refine jm rfl rfl ?_
 refine wN hK ?_; clear hK
 refine WC.seq fun K hK => ?_
 refine uS rfl fun K hK => ?_
 refine ja 4 rfl rfl rfl rfl ?_
 refine jl rfl rfl rfl (rd_pt (.head _) rfl) ?_
 refine jn rfl rfl rfl ?_
 refine jm rfl rfl ?_
 refine wN hK ?_; clear hK
 refine WC.block ?_
 refine WC.nilvec 3 1 ?_
 
 refine WC.loopF3 (fun (i : Nat) (F : Option Addr) (fc : Nat) => [(11, iv i), (10, iv m), (9, .slice M m mc), (5, .slice F (usL (ms.take i) d).length fc), (1, iv d)]) (fun i F fc => [vec F (usL (ms.take i) d).length fc 3 1 (ldv (usL (ms.take i) d))]) (fun i _ _ => i ≤ m) (fun i _ _ => m - i) 0 none 0 (by repeat (first | exact trivial | refine ⟨rfl, ?_⟩)) (Imp.pick (by repeat constructor) (Imp.nil _)) (by omega) ?_
 intro i F fc U hi
 by_cases hlt : i < m
 · have hts := take_snoc (l := ms) (k := i) (by omega)
   have hsn := usL_snoc (ms.take i) (nth ms i) d
   rw [← hts] at hsn
   have hul := usL_len (ms.take i) d
   rw [List.length_take] at hul
   have gM : ∀ j u, [iv (nth ms i).g, iv (nth ms i).p, iv (nth ms i).d, iv (nth ms i).b][j]? = some u → (mvs ms)[i * 4 + j]? = some u := mvs_row (by omega)
   generalize usL (ms.take i) d = us at *
   generalize (nth ms i).g = xg at *
   generalize (nth ms i).p = xp at *
   generalize (nth ms i).d = xd at *
   generalize (nth ms i).b = xb at *
   by_cases he : xd = d
   · rw [if_pos he] at hsn
     refine uS rfl fun K hK => ?_
     refine jt rfl rfl (by omega) ?_
     refine wN hK ?_; clear hK
     refine WC.seq fun K hK => ?_
     refine uT rfl rfl ?_
     refine WC.skip ?_
     (refine hK _ _ ?_; clear hK)
     refine WC.seq fun K hK => ?_
     refine WC.block ?_
     refine uS rfl fun K hK => ?_
     refine wG rfl rfl (g_indexAddr (sz := 4) rfl (.mk rfl rfl) (.mk rfl rfl) rfl rfl rfl (by omega) (fun _ _ => sl_some hM (by omega))) ?_
     refine wG rfl rfl (g_loadA rfl (.mk rfl rfl) rfl rfl (rdr_sl (cs := [iv xg, iv xp, iv xd, iv xb]) hM (by omega) gM)) ?_
     refine WL.want rfl (WL1.alloc rfl rfl rfl rfl (fun b7 => ?_))
     refine WL.want rfl (WL1.storeAll rfl rfl (.mk rfl rfl) (.mk rfl rfl) rfl (all1 rfl) (by first | rfl | (simp [Blk.len]; done)) (.head) ?_)
     refine wN hK ?_; clear hK
     refine uS rfl fun K hK => ?_
     refine ja 2 rfl rfl rfl rfl ?_
     refine ja 0 rfl rfl rfl rfl ?_
     refine jl rfl rfl rfl (rd_pt (.head _) rfl) ?_
     refine jm rfl rfl ?_
     refine jt rfl rfl (by omega) ?_
     refine wN hK ?_; clear hK
     refine uT rfl rfl ?_
     refine WC.region rfl ?_
     refine jm rfl rfl ?_
     refine ja 2 rfl rfl rfl rfl ?_
     refine ja 1 rfl rfl rfl rfl ?_
     refine jl rfl rfl rfl (rd_pt (.head _) rfl) ?_
     refine WL.want rfl (WL1.lit (cs := [_]) elI rfl rfl rfl (.cons (.mk (v := .int _ _) rfl rfl) .nil) rfl (by first | (simp [Value.cells]; done) | fail) rfl rfl (fun b24 => ?_))
     refine WL.want rfl (WL1.append elI rfl rfl (.mk rfl rfl) (.mk rfl rfl) (.tail (.tail (.head))) (fun w hw => Sl.of_vec hw (.head _)) (all1 rfl) (by unfold maxLen; omega) (by omega) (fun A25 c25 => ?_))
     refine jm rfl rfl ?_
     refine wN hK ?_; clear hK
     refine WC.region rfl ?_
     refine ji rfl rfl (by omega) ?_
     refine jm rfl rfl ?_
     refine WL.nil ?_
     have hl2 : (usL (ms.take (i + 1)) d).length = us.length + 1 := by rw [hsn, List.length_append]; rfl
     refine ⟨i + 1, A25, c25, by rw [hl2]; exact (by repeat (first | exact trivial | refine ⟨rfl, ?_⟩)), ?_, by omega, by omega⟩
     rw [hl2, hsn, ← ldv_snoc]
     exact Imp.pick (by repeat constructor) (Imp.nil _)
   · rw [if_neg he] at hsn
     refine uS rfl fun K hK => ?_
     refine jt rfl rfl (by omega) ?_
     refine wN hK ?_; clear hK
     refine WC.seq fun K hK => ?_
     refine uT rfl rfl ?_
     refine WC.skip ?_
     (refine hK _ _ ?_; clear hK)
     refine WC.seq fun K hK => ?_
     refine WC.block ?_
     refine uS rfl fun K hK => ?_
     refine wG rfl rfl (g_indexAddr (sz := 4) rfl (.mk rfl rfl) (.mk rfl rfl) rfl rfl rfl (by omega) (fun _ _ => sl_some hM (by omega))) ?_
     refine wG rfl rfl (g_loadA rfl (.mk rfl rfl) rfl rfl (rdr_sl (cs := [iv xg, iv xp, iv xd, iv xb]) hM (by omega) gM)) ?_
     refine WL.want rfl (WL1.alloc rfl rfl rfl rfl (fun b7 => ?_))
     refine WL.want rfl (WL1.storeAll rfl rfl (.mk rfl rfl) (.mk rfl rfl) rfl (all1 rfl) (by first | rfl | (simp [Blk.len]; done)) (.head) ?_)
     refine wN hK ?_; clear hK
     refine uS rfl fun K hK => ?_
     refine ja 2 rfl rfl rfl rfl ?_
     refine ja 0 rfl rfl rfl rfl ?_
     refine jl rfl rfl rfl (rd_pt (.head _) rfl) ?_
     refine jm rfl rfl ?_
     refine jf rfl rfl (by omega) ?_
     refine wN hK ?_; clear hK
     refine uF rfl rfl ?_
     refine WC.skip ?_
     (refine hK _ _ ?_; clear hK)
     refine WC.region rfl ?_
     refine ji rfl rfl (by omega) ?_
     refine jm rfl rfl ?_
     refine WL.nil ?_
     exact ⟨i + 1, F, fc, by rw [hsn]; exact (by repeat (first | exact trivial | refine ⟨rfl, ?_⟩)), by rw [hsn]; exact Imp.pick (by repeat constructor) (Imp.nil _), by omega, by omega⟩
 · obtain rfl : i = m := by omega
   rw [List.take_of_length_le (by omega)]
   refine uS rfl fun K hK => ?_
   refine jf rfl rfl (by omega) ?_
   refine wN hK ?_; clear hK
   refine WC.seq fun K hK => ?_
   refine uF rfl rfl ?_
   refine WC.exit ?_
   (clear hK; refine hK _ _ ?_; clear hK)
   refine uS rfl fun K hK => ?_
   refine jm rfl rfl ?_
   (refine WL.want rfl (WL1.callF rfl rfl rfl (.cons (.mk (v := .slice _ _ _) rfl rfl) .nil) (fun w hw => sort_f (l := usL ms d) rfl h12 hw) ?_); rintro _ _ ⟨rfl, rfl⟩)
   refine wN hK ?_; clear hK
   refine uS rfl fun K hK => ?_
   iterate 2 refine jm rfl rfl ?_
   refine wN hK ?_; clear hK
   refine WC.ret ?_
   exact fun w' hw' => ⟨_, _, rfl, hw', F, fc, rfl, rfl⟩
/-! ### The map of places -/
theorem laidP6 : laidOutB Tryz.prog = true := by kernel_rfl
theorem kP : Maps.Keyed Tryz.prog PT := Maps.Keyed.of_law (deep_law_laid laidP6 (m := 4) (by omega) (of_decide_eq_true (by kernel_rfl)) (by kernel_rfl) (by kernel_rfl))
theorem pkl_int {P : Program} {t : TypeId} {q : IntKind} {n : Int} {d : Nat} (hT : P.underlying t = some (.int q)) (h : (Lit.int q n).wf = true) : P.keyLits (d + 1) t [.int q n] = some [.int q n] := by
 unfold Program.keyLits; rw [hT]; simp [h]
theorem pmapM_ex {α β : Type} {f : α → Option β} : ∀ {l : List α}, (∀ a ∈ l, ∃ b, f a = some b) → ∃ bs, l.mapM f = some bs
 | [], _ => ⟨[], rfl⟩
 | a :: l, h => by
   obtain ⟨b, hb⟩ := h a (List.mem_cons_self ..)
   obtain ⟨bs, hbs⟩ := pmapM_ex (l := l) fun c hc => h c (List.mem_cons_of_mem _ hc)
   exact ⟨b :: bs, by rw [List.mapM_cons, hb, hbs]; rfl⟩
theorem pkl_struct {P : Program} {t : TypeId} {fs : Array Field} {d : Nat} {cs : List Value} (hT : P.underlying t = some (.struct fs)) (hl : cs.length = P.cellsOf t) (hn : fs.all (·.name != "_") = true) (h : ∀ f ∈ fs.toList, ∃ l, P.keyLits d f.type ((cs.drop f.offset).take (P.cellsOf f.type)) = some l) : ∃ l, P.keyLits (d + 1) t cs = some l := by
 obtain ⟨bs, hb⟩ := pmapM_ex h
 refine ⟨bs.flatten, ?_⟩
 unfold Program.keyLits; rw [hT]
 dsimp only
 rw [if_pos ⟨hl, hn⟩, hb]; rfl
theorem wf_n {x : Nat} (h : x ≤ 1000000) : (Lit.int .i64 (x : Int)).wf = true := by
 have h1 : decide (IntKind.i64.min ≤ (x : Int)) = true := decide_eq_true (by show (-9223372036854775808 : Int) ≤ x; omega)
 have h2 : decide ((x : Int) ≤ IntKind.i64.max) = true := decide_eq_true (by show (x : Int) ≤ 9223372036854775807; omega)
 show (decide (IntKind.i64.min ≤ (x : Int)) && decide ((x : Int) ≤ IntKind.i64.max)) = true
 rw [h1, h2]; rfl
theorem key_pl {d b : Nat} (h1 : d ≤ 1000000) (h2 : b ≤ 1000000) : ∃ kl, keyOf Tryz.prog PT (plV d b) = some kl := by
 have hex : ∃ l, Tryz.prog.keyLits (Tryz.prog.types.size + 1) PT [iv d, iv b] = some l := by
   have hsz : (Tryz.prog.types.size == 0) = false := by kernel_rfl
   have hsz2 : Tryz.prog.types.size ≠ 0 := fun h => by rw [h] at hsz; cases hsz
   obtain ⟨q, hq⟩ : ∃ q, Tryz.prog.types.size = q + 1 := ⟨_, (Nat.succ_pred_eq_of_ne_zero hsz2).symm⟩
   rw [hq]
   refine pkl_struct (fs := Tryz.prog.fieldsOf PT) (by kernel_rfl) (by kernel_rfl) (by kernel_rfl) fun f hf => ?_
   have hm : (f.offset, f.type) ∈ (Tryz.prog.fieldsOf PT).toList.map fun f => (f.offset, f.type) := List.mem_map_of_mem hf
   rw [show ((Tryz.prog.fieldsOf PT).toList.map fun f => (f.offset, f.type)) = [(0, 3), (1, 3)] from by kernel_rfl] at hm
   simp only [List.mem_cons, Prod.mk.injEq, List.not_mem_nil, or_false] at hm
   have ci : Tryz.prog.cellsOf 3 = 1 := by kernel_rfl
   rcases hm with ⟨e1, e2⟩ | ⟨e1, e2⟩
   · rw [e1, e2, ci]; exact ⟨_, pkl_int (by kernel_rfl) (wf_n h1)⟩
   · rw [e1, e2, ci]; exact ⟨_, pkl_int (by kernel_rfl) (wf_n h2)⟩
 obtain ⟨l, hl⟩ := hex
 refine ⟨.string (keyBytes l), ?_⟩
 have hu : Tryz.prog.underlying PT = some (.struct (Tryz.prog.fieldsOf PT)) := by kernel_rfl
 have hk : Tryz.prog.keyType PT = true := by kernel_rfl
 have hf : (plV d b).formed Tryz.prog PT = true := by kernel_rfl
 unfold keyOf
 rw [hu]
 dsimp only
 rw [hk, hf]
 show (Tryz.prog.keyLits (Tryz.prog.types.size + 1) PT [iv d, iv b]).map _ = _
 rw [hl]; rfl
end Go.Proofs.YtdcijljfgcjelaaGreat
namespace Go.Proofs.YtdcijljfgcjelaaGreat
set_option maxRecDepth 20000
open Go.RowKit
attribute [local irreducible] Calls
theorem pl_keys : ∃ K : Nat → Nat → Lit, ∀ d b, d ≤ 1000000 → b ≤ 1000000 → keyOf Tryz.prog PT (plV d b) = some (K d b) := by
 have h : ∀ d b : Nat, ∃ kl, d ≤ 1000000 → b ≤ 1000000 → keyOf Tryz.prog PT (plV d b) = some kl := fun d b => by
   by_cases h1 : d ≤ 1000000
   · by_cases h2 : b ≤ 1000000
     · obtain ⟨kl, h⟩ := key_pl h1 h2
       exact ⟨kl, fun _ _ => h⟩
     · exact ⟨.bool false, fun _ h => absurd h h2⟩
   · exact ⟨.bool false, fun h _ => absurd h h1⟩
 exact ⟨fun d b => Classical.choose (h d b), fun d b => Classical.choose_spec (h d b)⟩
variable {K0 : Nat → Nat → Lit}
theorem plK_inj (hPK : ∀ d b, d ≤ 1000000 → b ≤ 1000000 → keyOf Tryz.prog PT (plV d b) = some (K0 d b)) {d b d' b' : Nat} (h1 : d ≤ 1000000) (h2 : b ≤ 1000000) (h3 : d' ≤ 1000000) (h4 : b' ≤ 1000000) (h : K0 d b = K0 d' b') : d = d' ∧ b = b' := by
 have e1 := hPK d b h1 h2
 have e2 := hPK d' b' h3 h4
 rw [← h] at e2
 have := keyOf_inj_deep (m := 4) (by kernel_rfl) (by kernel_rfl) e1 e2
 simp only [Value.agg.injEq, Array.mk.injEq, List.cons.injEq, Value.int.injEq, and_true, true_and] at this
 omega
def mpD (K : Nat → Nat → Lit) (ms : List Mv) : Nat → DataW Value
 | 0 => .map []
 | i + 1 => (mpD K ms i).put (K (nth ms i).d (nth ms i).b) (.held (.bool true))
theorem mpD_at (hPK : ∀ d b, d ≤ 1000000 → b ≤ 1000000 → keyOf Tryz.prog PT (plV d b) = some (K0 d b)) {ms : List Mv} {d b : Nat} (hd : d ≤ 1000000) (hb : b ≤ 1000000) : ∀ i, (∀ j, j < i → (nth ms j).d ≤ 1000000 ∧ (nth ms j).b ≤ 1000000 ∧ ¬ ((nth ms j).d = d ∧ (nth ms j).b = b)) → (mpD K0 ms i).atKey (K0 d b) (.held (.bool false)) = .held (.bool false)
 | 0, _ => rfl
 | i + 1, h => by
   obtain ⟨a1, a2, a3⟩ := h i (by omega)
   rw [mpD, Maps.atKey_put_other (fun e => a3 ?_), mpD_at hPK hd hb i fun j hj => h j (by omega)]
   have := plK_inj hPK hd hb a1 a2 e
   exact ⟨this.1.symm, this.2.symm⟩
structure MOk (v k r t n s : Nat) (gs : List (List Nat)) (ms : List Mv) : Prop where
 g : ∀ i, i < ms.length → (nth ms i).g < t * n
 p : ∀ i, i < ms.length → (nth ms i).p < k
 d : ∀ i, i < ms.length → (nth ms i).d < v
 lo : ∀ i, i < ms.length → t * r ≤ (nth ms i).b
 hi : ∀ i, i < ms.length → (nth ms i).b < t * r + s
 inc : Inc ms
 uni : ∀ i, i < ms.length → ∀ j, j < i → ¬ ((nth ms j).d = (nth ms i).d ∧ (nth ms j).b = (nth ms i).b)
 ap : ∀ i, i < ms.length → SInc (isort (dskL gs n k ms (nth ms i).g))
 len : ms.length ≤ 1000
variable {v k r lam t s : Nat} {A : Option Addr} {c : Nat} {rs : List IRow} {M : Option Addr} {mc m : Nat} {ms : List Mv}
theorem bool_zero (w : World) : (zeroValue 4).run Tryz.prog w = .ok (.bool false) w := run_zero (by kernel_rfl) w
set_option maxHeartbeats 16000000 in
theorem mcheck_e (w : World) (hy : Lay v k r lam (ils rs) t s) (hm : IMat w (.slice A rs.length c) rs) (hM : Sl w 4 (.slice M m mc) m (mvs ms)) (hl : ms.length = m) (hs1 : 1 ≤ s) (hk12 : k ≤ 12) (ho : MOk v k r t rs.length s (ils rs) ms) :
   Calls Tryz.prog 72 #[layV v A c rs t s, .slice M m mc] w fun e w' => e = .returned (.tuple #[stV v A c rs t s M mc m (t * r) (t * r + s), .bool true]) ∧ Below w.heap.size w w' := by
 have hcap := hy.cap
 have hgrp := hy.grp'
 have hv60 := hy.d.v60
 have hm1 : m ≤ 1000 := by rw [← hl]; exact ho.len
 have hbl := fun w' hb => lblocks_e w' hy (hm.below (w' := w') hb)
 have hcast : ((t * r : Nat) : Int) + (s : Int) = ((t * r + s : Nat) : Int) := by omega
 rw [hcast] at hbl
 have hsub : IntKind.i64.wrap (((t * r + s : Nat) : Int) - (s : Int)) = ((t * r : Nat) : Int) := by rw [IntWalk.i64_in _ (by omega)]; omega
 have hhas := fun w' hb G p hG hp => shas_e (M := M) (mc := mc) (m := m) (hs := t * r) (bl := t * r + s) (s := s) (G := G) (p := p) w' hy.d (hm.below (w' := w') hb) rfl hG hp hgrp
 have hapt := fun w' hb G hG hap => apart_e (t := t) (s := s) (hs := t * r) (bl := t * r + s) (G := G) w' hy.d (hm.below (w' := w') hb) (hM.below hb) hl hm1 ho.inc (fun i hi => ho.p i (by omega)) hG hk12 hap
 obtain ⟨K0, hPK⟩ := pl_keys
 generalize hTR : t * r = tr at *
 refine calls_wcG (args := [layV v A c rs t s, .slice M m mc]) [.cell 4 145, .tmp 5] [] Tryz.func72 rfl Tryz.ntmps72 rfl rfl (H.refl _) ?_
 refine uS rfl fun K hK => ?_
 refine WL.want rfl (WL1.box rfl rfl (.mk (v := .agg _) rfl rfl) rfl (fun b2 => ?_))
 refine WL.want rfl (WL1.alloc rfl rfl rfl rfl (fun b4 => ?_))
 refine jm rfl rfl ?_
 refine wN hK ?_; clear hK
 refine uS rfl fun K hK => ?_
 refine wG rfl rfl (g_loadA rfl (.mk rfl rfl) rfl rfl (rdr_pt (.tail _ (.head _)) (fun j u h => by simpa using h))) ?_
 refine WL.want rfl (WL1.callP rfl rfl rfl (.cons (.mk (v := .agg _) rfl rfl) .nil) (fun w hw => hbl w hw.1) ?_)
 refine jm rfl rfl ?_
 refine wN hK ?_; clear hK
 refine WC.seq fun K hK => ?_
 refine uS rfl fun K hK => ?_
 refine jm rfl rfl ?_
 refine jf rfl rfl (by omega) ?_
 refine wN hK ?_; clear hK
 refine uF rfl rfl ?_
 refine WC.skip ?_
 (refine hK _ _ ?_; clear hK)
 refine uS rfl fun K hK => ?_
 refine wG rfl rfl (g_loadA rfl (.mk rfl rfl) rfl rfl (rdr_pt (.tail _ (.head _)) (fun j u h => by simpa using h))) ?_
 iterate 2 refine jm rfl rfl ?_
 refine ja 3 rfl rfl rfl rfl ?_
 refine jl rfl rfl rfl (rd_pt (.tail _ (.head _)) rfl) ?_
 refine wG rfl rfl (g_sub rfl (.mk rfl rfl) (.mk rfl rfl) hsub) ?_
 refine jm rfl rfl ?_
 refine wG rfl rfl (g_buildS (us := [(0, [iv v, .slice A rs.length c, iv t, iv s]), (1, [.slice M m mc]), (2, [_]), (3, [_])]) (cs := [iv v, .slice A rs.length c, iv t, iv s, .slice M m mc, iv tr, iv ((tr + s : Nat) : Int)]) rfl rfl rfl rfl (.cons (.mk (v := .agg _) rfl rfl) (.cons (.mk (v := .slice _ _ _) rfl rfl) (.cons (.mk (v := .int _ _) rfl rfl) (.cons (.mk (v := .int _ _) rfl rfl) .nil)))) rfl (fun p hp => by simp only [List.mem_cons, List.not_mem_nil, or_false] at hp; rcases hp with rfl | rfl | rfl | rfl <;> exact ⟨_, _, rfl, rfl, Nat.le_of_ble_eq_true rfl⟩) rfl) ?_
 refine WL.want rfl (WL1.alloc rfl rfl rfl rfl (fun b7 => ?_))
 refine WL.want rfl (WL1.storeAll rfl rfl (.mk rfl rfl) (.mk rfl rfl) rfl (all1 rfl) (by first | rfl | (simp [Blk.len]; done)) (.head) ?_)
 refine wN hK ?_; clear hK
 refine uS rfl fun K hK => ?_
 refine WL.want rfl (WL1.makeMap (k := PT) rfl rfl (fun b26 => ?_))
 refine wG rfl rfl (g_assign rfl (.mk rfl (by conv => lhs; whnf))) ?_
 refine wN hK ?_; clear hK
 refine WC.seq fun K hK => ?_
 refine uS rfl fun K hK => ?_
 refine jm rfl rfl ?_
 refine jn rfl rfl rfl ?_
 refine jm rfl rfl ?_
 refine wN hK ?_; clear hK
 refine WC.block ?_
 refine WC.loopF (fun i : Nat => [(29, iv i), (28, iv m), (27, .slice M m mc), (1, .slice M m mc), (2, cellPtr (some ⟨b2, 0, none⟩) 0), (4, cellPtr (some ⟨b4, 0, none⟩) 0), (7, cellPtr (some ⟨b7, 0, none⟩) 0), (8, .map (some b26))]) (fun i => [mp Tryz.prog PT b26 i (mpD K0 ms i), pt b7 STT [iv v, .slice A rs.length c, iv t, iv s, .slice M m mc, iv tr, iv ((tr + s : Nat) : Int)], pt b4 STT [iv 0, .slice none 0 0, iv 0, iv 0, .slice none 0 0, iv 0, iv 0], pt b2 LT [iv v, .slice A rs.length c, iv t, iv s]]) (fun i => i ≤ m) (fun i => m - i) 0 (by repeat (first | exact trivial | refine ⟨rfl, ?_⟩)) (Imp.pick (by repeat constructor) (Imp.pick (by repeat constructor) (Imp.pick (by repeat constructor) (Imp.pick (by repeat constructor) (Imp.nil _))))) (by omega) ?_
 intro i U hi
 by_cases hlt : i < m
 · have hil : i < ms.length := by omega
   have hG := ho.g i hil
   have hP := ho.p i hil
   have hD := ho.d i hil
   have hLo := ho.lo i hil
   have hHi := ho.hi i hil
   rw [hTR] at hLo hHi
   have hhi := fun w' hb => hhas w' hb _ _ hG hP
   have gM : ∀ j u, [iv (nth ms i).g, iv (nth ms i).p, iv (nth ms i).d, iv (nth ms i).b][j]? = some u → (mvs ms)[i * 4 + j]? = some u := mvs_row hil
   have hkey := hPK (nth ms i).d (nth ms i).b (by omega) (by omega)
   have hlk := mpD_at hPK (ms := ms) (d := (nth ms i).d) (b := (nth ms i).b) (by omega) (by omega) i fun j hj => by
     have h1 := ho.d j (by omega)
     have h2 := ho.hi j (by omega)
     rw [hTR] at h2
     exact ⟨by omega, by omega, ho.uni i hil j hj⟩
   have hnx : (mpD K0 ms i).put (K0 (nth ms i).d (nth ms i).b) (.held (.bool true)) = mpD K0 ms (i + 1) := rfl
   by_cases hi0 : i = 0
   · subst hi0
     generalize mpD K0 ms 0 = D0 at *
     generalize K0 (nth ms 0).d (nth ms 0).b = kl at *
     generalize (nth ms 0).g = xg at *
     generalize (nth ms 0).p = xp at *
     generalize (nth ms 0).d = xd at *
     generalize (nth ms 0).b = xb at *
     refine uS rfl fun K hK => ?_
     refine jt rfl rfl (by omega) ?_
     refine wN hK ?_; clear hK
     refine WC.seq fun K hK => ?_
     refine uT rfl rfl ?_
     refine WC.skip ?_
     (refine hK _ _ ?_; clear hK)
     refine WC.seq fun K hK => ?_
     refine WC.block ?_
     refine uS rfl fun K hK => ?_
     refine jm rfl rfl ?_
     refine wG rfl rfl (g_indexAddr (sz := 4) rfl (.mk rfl rfl) (.mk rfl rfl) rfl rfl (show _ = ((0 : Nat) : Int) from rfl) (by omega) (fun _ _ => sl_some hM (by omega))) ?_
     refine wG rfl rfl (g_loadA rfl (.mk rfl rfl) rfl rfl (rdr_sl (cs := [iv xg, iv xp, iv xd, iv xb]) hM (by omega) gM)) ?_
     refine WL.want rfl (WL1.alloc rfl rfl rfl rfl (fun b10 => ?_))
     refine jm rfl rfl ?_
     refine WL.want rfl (WL1.storeAll rfl rfl (.mk rfl rfl) (.mk rfl rfl) rfl (all1 rfl) (by first | rfl | (simp [Blk.len]; done)) (.head) ?_)
     refine wN hK ?_; clear hK
     refine WC.seq fun K hK => ?_
     refine uS rfl fun K hK => ?_
     refine wG rfl rfl (g_loadA rfl (.mk rfl rfl) rfl rfl (rdr_pt (.tail _ (.tail _ (.head _))) (fun j u h => by simpa using h))) ?_
     refine ja 0 rfl rfl rfl rfl ?_
     refine jl rfl rfl rfl (rd_pt (.head _) rfl) ?_
     refine ja 1 rfl rfl rfl rfl ?_
     refine jl rfl rfl rfl (rd_pt (.head _) rfl) ?_
     refine WL.want rfl (WL1.callP rfl rfl rfl (.cons (.mk (v := .agg _) rfl rfl) (.cons (.mk (v := .int _ _) rfl rfl) (.cons (.mk (v := .int _ _) rfl rfl) .nil))) (fun w hw => hhi w hw.1) ?_)
     refine jm rfl rfl ?_
     refine wN hK ?_; clear hK
     refine uF rfl rfl ?_
     refine WC.skip ?_
     (refine hK _ _ ?_; clear hK)
     refine WC.seq fun K hK => ?_
     refine WC.seq fun K hK => ?_
     refine WC.quiet rfl (by kernel_rfl) (by decide +kernel) ?_
     refine ym rfl rfl ?_
     refine yf rfl rfl (by omega) ?_
     refine ym rfl rfl ?_
     iterate 12 refine uz rfl rfl ?_
     refine ym rfl rfl ?_
     refine WQ.nil ?_
     (refine hK _ _ ?_; clear hK)
     refine uF rfl rfl ?_
     refine WC.skip ?_
     (refine hK _ _ ?_; clear hK)
     refine WC.seq fun K hK => ?_
     refine uS rfl fun K hK => ?_
     refine ja 2 rfl rfl rfl rfl ?_
     refine ja 0 rfl rfl rfl rfl ?_
     refine jl rfl rfl rfl (rd_pt (.head _) rfl) ?_
     refine jf rfl rfl (by omega) ?_
     refine jm rfl rfl ?_
     refine qa 2 rfl rfl rfl rfl ?_
     refine qa 0 rfl rfl rfl rfl ?_
     refine ql rfl rfl rfl (rd_pt (.head _) rfl) ?_
     iterate 2 refine qa 0 rfl rfl rfl rfl ?_
     refine ql rfl rfl rfl (rd_pt (.tail _ (.tail _ (.tail _ (.tail _ (.head _))))) rfl) ?_
     refine qf rfl rfl (by omega) ?_
     iterate 2 refine jm rfl rfl ?_
     refine qa 2 rfl rfl rfl rfl ?_
     refine qa 1 rfl rfl rfl rfl ?_
     refine ql rfl rfl rfl (rd_pt (.head _) rfl) ?_
     refine qa 5 rfl rfl rfl rfl ?_
     refine ql rfl rfl rfl (rd_pt (.tail _ (.tail _ (.head _))) rfl) ?_
     refine qf rfl rfl (by omega) ?_
     iterate 2 refine jm rfl rfl ?_
     refine qa 2 rfl rfl rfl rfl ?_
     refine qa 1 rfl rfl rfl rfl ?_
     refine ql rfl rfl rfl (rd_pt (.head _) rfl) ?_
     refine qa 6 rfl rfl rfl rfl ?_
     refine ql rfl rfl rfl (rd_pt (.tail _ (.tail _ (.head _))) rfl) ?_
     refine qf rfl rfl (by omega) ?_
     iterate 2 refine jm rfl rfl ?_
     refine qW rfl (WL1.give rfl (g_move rfl (.mk rfl (by conv => lhs; whnf))) ?_)
     refine qa 2 rfl rfl rfl rfl ?_
     refine qW rfl (WL1.give rfl (g_loadA rfl (.mk rfl rfl) rfl rfl (rdr_pt (cs := [iv xd, iv xb]) (by repeat constructor) (fun j u h => by rw [Nat.zero_add, show 0 + 2 + j = j + 2 from by omega]; exact h))) ?_)
     refine qW rfl (WL1.give rfl (g_look (z := .bool false) (by repeat constructor) rfl (.mk rfl rfl) (.mk rfl rfl) kP (by kernel_rfl) bool_zero hkey hlk) ?_)
     refine jm rfl rfl ?_
     refine wN hK ?_; clear hK
     refine uF rfl rfl ?_
     refine WC.skip ?_
     (refine hK _ _ ?_; clear hK)
     refine WC.region rfl ?_
     refine wG rfl rfl (g_move rfl (.mk rfl (by conv => lhs; whnf))) ?_
     refine ja 2 rfl rfl rfl rfl ?_
     refine wG rfl rfl (g_loadA rfl (.mk rfl rfl) rfl rfl (rdr_pt (cs := [iv xd, iv xb]) (by repeat constructor) (fun j u h => by rw [Nat.zero_add, show 0 + 2 + j = j + 2 from by omega]; exact h))) ?_
     refine WL.want rfl (WL1.mapUpdate (c := 0) (key := plV xd xb) (val := .bool true) rfl rfl (.mk rfl rfl) (.mk rfl rfl) (.mk rfl rfl) kP rfl (by unfold maxLen; omega) hkey (by repeat (first | exact .head | apply Swap.tail)) ?_)
     refine wN hK ?_; clear hK
     refine WC.region rfl ?_
     refine ji rfl rfl (by omega) ?_
     refine jm rfl rfl ?_
     refine WL.nil ?_
     refine ⟨0 + 1, (by repeat (first | exact trivial | refine ⟨rfl, ?_⟩)), ?_, by omega, by omega⟩
     rw [← hnx]
     exact Imp.pick (by repeat constructor) (Imp.pick (by repeat constructor) (Imp.pick (by repeat constructor) (Imp.pick (by repeat constructor) (Imp.nil _))))
   · obtain ⟨z, rfl⟩ : ∃ z, i = z + 1 := ⟨i - 1, by omega⟩
     have gZ : ∀ j u, [iv (nth ms z).g, iv (nth ms z).p, iv (nth ms z).d, iv (nth ms z).b][j]? = some u → (mvs ms)[z * 4 + j]? = some u := mvs_row (by omega)
     have hzsub : IntKind.i64.wrap (((z + 1 : Nat) : Int) - 1) = (z : Int) := by rw [IntWalk.i64_in _ (by omega)]; omega
     have hinc := ho.inc z (by omega)
     have hor := fun w => order_e (nth ms z) (nth ms (z + 1)).g (nth ms (z + 1)).p w
     have hox : ordI (nth ms z) (nth ms (z + 1)).g (nth ms (z + 1)).p < 0 := (ordI_lt _ _ _).2 (lesM_iff.2 (.inl hinc))
     have hob := ordI_bd (nth ms z) (nth ms (z + 1)).g (nth ms (z + 1)).p
     generalize ordI (nth ms z) (nth ms (z + 1)).g (nth ms (z + 1)).p = ox at *
     generalize mpD K0 ms (z + 1) = D0 at *
     generalize K0 (nth ms (z + 1)).d (nth ms (z + 1)).b = kl at *
     generalize (nth ms (z + 1)).g = xg at *
     generalize (nth ms (z + 1)).p = xp at *
     generalize (nth ms (z + 1)).d = xd at *
     generalize (nth ms (z + 1)).b = xb at *
     refine uS rfl fun K hK => ?_
     refine jt rfl rfl (by omega) ?_
     refine wN hK ?_; clear hK
     refine WC.seq fun K hK => ?_
     refine uT rfl rfl ?_
     refine WC.skip ?_
     (refine hK _ _ ?_; clear hK)
     refine WC.seq fun K hK => ?_
     refine WC.block ?_
     refine uS rfl fun K hK => ?_
     refine jm rfl rfl ?_
     refine wG rfl rfl (g_indexAddr (sz := 4) rfl (.mk rfl rfl) (.mk rfl rfl) rfl rfl rfl (by omega) (fun _ _ => sl_some hM (by omega))) ?_
     refine wG rfl rfl (g_loadA rfl (.mk rfl rfl) rfl rfl (rdr_sl (cs := [iv xg, iv xp, iv xd, iv xb]) hM (by omega) gM)) ?_
     refine WL.want rfl (WL1.alloc rfl rfl rfl rfl (fun b10 => ?_))
     refine jm rfl rfl ?_
     refine WL.want rfl (WL1.storeAll rfl rfl (.mk rfl rfl) (.mk rfl rfl) rfl (all1 rfl) (by first | rfl | (simp [Blk.len]; done)) (.head) ?_)
     refine wN hK ?_; clear hK
     refine WC.seq fun K hK => ?_
     refine uS rfl fun K hK => ?_
     refine wG rfl rfl (g_loadA rfl (.mk rfl rfl) rfl rfl (rdr_pt (.tail _ (.tail _ (.head _))) (fun j u h => by simpa using h))) ?_
     refine ja 0 rfl rfl rfl rfl ?_
     refine jl rfl rfl rfl (rd_pt (.head _) rfl) ?_
     refine ja 1 rfl rfl rfl rfl ?_
     refine jl rfl rfl rfl (rd_pt (.head _) rfl) ?_
     refine WL.want rfl (WL1.callP rfl rfl rfl (.cons (.mk (v := .agg _) rfl rfl) (.cons (.mk (v := .int _ _) rfl rfl) (.cons (.mk (v := .int _ _) rfl rfl) .nil))) (fun w hw => hhi w hw.1) ?_)
     refine jm rfl rfl ?_
     refine wN hK ?_; clear hK
     refine uF rfl rfl ?_
     refine WC.skip ?_
     (refine hK _ _ ?_; clear hK)
     refine WC.seq fun K hK => ?_
     refine WC.seq fun K hK => ?_
     refine WC.quiet rfl (by kernel_rfl) (by decide +kernel) ?_
     refine ym rfl rfl ?_
     refine yt rfl rfl (by omega) ?_
     refine ym rfl rfl ?_
     iterate 2 refine Zm rfl rfl ?_
     refine ZW rfl (WQ1.give rfl (g_sub rfl (.mk rfl rfl) (.mk rfl rfl) hzsub) ?_)
     refine ZW rfl (WQ1.give rfl (g_indexAddr (sz := 4) rfl (.mk rfl rfl) (.mk rfl rfl) rfl rfl rfl (by omega) (fun _ _ => sl_some hM (by omega))) ?_)
     refine ZW rfl (WQ1.give rfl (g_loadA rfl (.mk rfl rfl) rfl rfl (rdr_sl (cs := [iv (nth ms z).g, iv (nth ms z).p, iv (nth ms z).d, iv (nth ms z).b]) hM (by omega) gZ)) ?_)
     refine Za 0 rfl rfl rfl rfl ?_
     refine Zl rfl rfl rfl (rd_pt (.head _) rfl) ?_
     refine Za 1 rfl rfl rfl rfl ?_
     refine Zl rfl rfl rfl (rd_pt (.head _) rfl) ?_
     refine ZW rfl (WQ1.give rfl (g_build (cs := [_, _]) rfl rfl rfl rfl (.cons (.mk (v := .int _ _) rfl rfl) (.cons (.mk (v := .int _ _) rfl rfl) .nil)) rfl rfl rfl) ?_)
     refine ZW rfl (WQ1.callP rfl rfl rfl (.cons (.mk (v := .agg _) rfl rfl) (.cons (.mk (v := .agg _) rfl rfl) .nil)) (fun w hw => hor w) ?_)
     refine Zf rfl rfl (by omega) ?_
     refine ym rfl rfl ?_
     refine WQ.nil ?_
     (refine hK _ _ ?_; clear hK)
     refine uF rfl rfl ?_
     refine WC.skip ?_
     (refine hK _ _ ?_; clear hK)
     refine WC.seq fun K hK => ?_
     refine uS rfl fun K hK => ?_
     refine ja 2 rfl rfl rfl rfl ?_
     refine ja 0 rfl rfl rfl rfl ?_
     refine jl rfl rfl rfl (rd_pt (.head _) rfl) ?_
     refine jf rfl rfl (by omega) ?_
     refine jm rfl rfl ?_
     refine qa 2 rfl rfl rfl rfl ?_
     refine qa 0 rfl rfl rfl rfl ?_
     refine ql rfl rfl rfl (rd_pt (.head _) rfl) ?_
     iterate 2 refine qa 0 rfl rfl rfl rfl ?_
     refine ql rfl rfl rfl (rd_pt (.tail _ (.tail _ (.tail _ (.tail _ (.head _))))) rfl) ?_
     refine qf rfl rfl (by omega) ?_
     iterate 2 refine jm rfl rfl ?_
     refine qa 2 rfl rfl rfl rfl ?_
     refine qa 1 rfl rfl rfl rfl ?_
     refine ql rfl rfl rfl (rd_pt (.head _) rfl) ?_
     refine qa 5 rfl rfl rfl rfl ?_
     refine ql rfl rfl rfl (rd_pt (.tail _ (.tail _ (.head _))) rfl) ?_
     refine qf rfl rfl (by omega) ?_
     iterate 2 refine jm rfl rfl ?_
     refine qa 2 rfl rfl rfl rfl ?_
     refine qa 1 rfl rfl rfl rfl ?_
     refine ql rfl rfl rfl (rd_pt (.head _) rfl) ?_
     refine qa 6 rfl rfl rfl rfl ?_
     refine ql rfl rfl rfl (rd_pt (.tail _ (.tail _ (.head _))) rfl) ?_
     refine qf rfl rfl (by omega) ?_
     iterate 2 refine jm rfl rfl ?_
     refine qW rfl (WL1.give rfl (g_move rfl (.mk rfl (by conv => lhs; whnf))) ?_)
     refine qa 2 rfl rfl rfl rfl ?_
     refine qW rfl (WL1.give rfl (g_loadA rfl (.mk rfl rfl) rfl rfl (rdr_pt (cs := [iv xd, iv xb]) (by repeat constructor) (fun j u h => by rw [Nat.zero_add, show 0 + 2 + j = j + 2 from by omega]; exact h))) ?_)
     refine qW rfl (WL1.give rfl (g_look (z := .bool false) (by repeat constructor) rfl (.mk rfl rfl) (.mk rfl rfl) kP (by kernel_rfl) bool_zero hkey hlk) ?_)
     refine jm rfl rfl ?_
     refine wN hK ?_; clear hK
     refine uF rfl rfl ?_
     refine WC.skip ?_
     (refine hK _ _ ?_; clear hK)
     refine WC.region rfl ?_
     refine wG rfl rfl (g_move rfl (.mk rfl (by conv => lhs; whnf))) ?_
     refine ja 2 rfl rfl rfl rfl ?_
     refine wG rfl rfl (g_loadA rfl (.mk rfl rfl) rfl rfl (rdr_pt (cs := [iv xd, iv xb]) (by repeat constructor) (fun j u h => by rw [Nat.zero_add, show 0 + 2 + j = j + 2 from by omega]; exact h))) ?_
     refine WL.want rfl (WL1.mapUpdate (c := z + 1) (key := plV xd xb) (val := .bool true) rfl rfl (.mk rfl rfl) (.mk rfl rfl) (.mk rfl rfl) kP rfl (by unfold maxLen; omega) hkey (by repeat (first | exact .head | apply Swap.tail)) ?_)
     refine wN hK ?_; clear hK
     refine WC.region rfl ?_
     refine ji rfl rfl (by omega) ?_
     refine jm rfl rfl ?_
     refine WL.nil ?_
     refine ⟨z + 1 + 1, (by repeat (first | exact trivial | refine ⟨rfl, ?_⟩)), ?_, by omega, by omega⟩
     rw [← hnx]
     exact Imp.pick (by repeat constructor) (Imp.pick (by repeat constructor) (Imp.pick (by repeat constructor) (Imp.pick (by repeat constructor) (Imp.nil _))))
 obtain rfl : i = m := by omega
 clear hhas
 refine uS rfl fun K hK => ?_
 refine jf rfl rfl (by omega) ?_
 refine wN hK ?_; clear hK
 refine WC.seq fun K hK => ?_
 refine uF rfl rfl ?_
 refine WC.exit ?_
 (clear hK; refine hK _ _ ?_; clear hK)
 refine WC.seq fun K hK => ?_
 refine uS rfl fun K hK => ?_
 refine jm rfl rfl ?_
 refine jn rfl rfl rfl ?_
 refine jm rfl rfl ?_
 refine wN hK ?_; clear hK
 refine WC.block ?_
 refine WC.loopF (fun j : Nat => [(101, iv j), (100, iv i), (99, .slice M i mc), (4, cellPtr (some ⟨b4, 0, none⟩) 0), (7, cellPtr (some ⟨b7, 0, none⟩) 0)]) (fun _ => [pt b7 STT [iv v, .slice A rs.length c, iv t, iv s, .slice M i mc, iv tr, iv ((tr + s : Nat) : Int)], pt b4 STT [iv 0, .slice none 0 0, iv 0, iv 0, .slice none 0 0, iv 0, iv 0]]) (fun j => j ≤ i) (fun j => i - j) 0 (by repeat (first | exact trivial | refine ⟨rfl, ?_⟩)) (Imp.pick (by repeat constructor) (Imp.pick (by repeat constructor) (Imp.nil _))) (by omega) ?_
 intro j U2 hj
 by_cases hlt : j < i
 · have hil : j < ms.length := by omega
   have hG := ho.g j hil
   have hap := fun w' hb => hapt w' hb (nth ms j).g (by omega) (ho.ap j hil)
   have gM : ∀ q u, [iv (nth ms j).g, iv (nth ms j).p, iv (nth ms j).d, iv (nth ms j).b][q]? = some u → (mvs ms)[j * 4 + q]? = some u := mvs_row hil
   generalize (nth ms j).g = xg at *
   generalize (nth ms j).p = xp at *
   generalize (nth ms j).d = xd at *
   generalize (nth ms j).b = xb at *
   refine uS rfl fun K hK => ?_
   refine jt rfl rfl (by omega) ?_
   refine wN hK ?_; clear hK
   refine WC.seq fun K hK => ?_
   refine uT rfl rfl ?_
   refine WC.skip ?_
   (refine hK _ _ ?_; clear hK)
   refine WC.seq fun K hK => ?_
   refine WC.block ?_
   refine uS rfl fun K hK => ?_
   refine wG rfl rfl (g_indexAddr (sz := 4) rfl (.mk rfl rfl) (.mk rfl rfl) rfl rfl rfl (by omega) (fun _ _ => sl_some hM (by omega))) ?_
   refine wG rfl rfl (g_loadA rfl (.mk rfl rfl) rfl rfl (rdr_sl (cs := [iv xg, iv xp, iv xd, iv xb]) hM (by omega) gM)) ?_
   refine WL.want rfl (WL1.alloc rfl rfl rfl rfl (fun b12 => ?_))
   refine WL.want rfl (WL1.storeAll rfl rfl (.mk rfl rfl) (.mk rfl rfl) rfl (all1 rfl) (by first | rfl | (simp [Blk.len]; done)) (.head) ?_)
   refine wN hK ?_; clear hK
   refine uS rfl fun K hK => ?_
   refine wG rfl rfl (g_loadA rfl (.mk rfl rfl) rfl rfl (rdr_pt (.tail _ (.head _)) (fun j u h => by simpa using h))) ?_
   refine ja 0 rfl rfl rfl rfl ?_
   refine jl rfl rfl rfl (rd_pt (.head _) rfl) ?_
   refine WL.want rfl (WL1.callP rfl rfl rfl (.cons (.mk (v := .agg _) rfl rfl) (.cons (.mk (v := .int _ _) rfl rfl) .nil)) (fun w hw => hap w hw.1) ?_)
   refine jm rfl rfl ?_
   refine wN hK ?_; clear hK
   refine uF rfl rfl ?_
   refine WC.skip ?_
   (refine hK _ _ ?_; clear hK)
   refine WC.region rfl ?_
   refine ji rfl rfl (by omega) ?_
   refine jm rfl rfl ?_
   refine WL.nil ?_
   exact ⟨j + 1, (by repeat (first | exact trivial | refine ⟨rfl, ?_⟩)), Imp.pick (by repeat constructor) (Imp.pick (by repeat constructor) (Imp.nil _)), by omega, by omega⟩
 · obtain rfl : j = i := by omega
   refine uS rfl fun K hK => ?_
   refine jf rfl rfl (by omega) ?_
   refine wN hK ?_; clear hK
   refine WC.seq fun K hK => ?_
   refine uF rfl rfl ?_
   refine WC.exit ?_
   (clear hK; refine hK _ _ ?_; clear hK)
   refine uS rfl fun K hK => ?_
   refine wG rfl rfl (g_loadA rfl (.mk rfl rfl) rfl rfl (rdr_pt (.head _) (fun j u h => by simpa using h))) ?_
   refine WL.want rfl (WL1.storeAll rfl rfl (.mk rfl rfl) (.mk rfl rfl) rfl (all1 rfl) (by first | rfl | (simp [Blk.len]; done)) (.tail (.head)) ?_)
   refine jm rfl rfl ?_
   refine wN hK ?_; clear hK
   refine WC.ret ?_
   exact ⟨_, .cell rfl rfl rfl rfl (by repeat constructor) (.tmp rfl rfl .nil), fun w' hw' => ⟨rfl, hw'.1⟩⟩
end Go.Proofs.YtdcijljfgcjelaaGreat
namespace Go.Proofs.YtdcijljfgcjelaaGreat
set_option maxRecDepth 20000
open Go.RowKit
attribute [local irreducible] Calls
variable {v k r lam t s : Nat} {A : Option Addr} {c : Nat} {rs : List IRow} {M : Option Addr} {mc m : Nat} {ms : List Mv}
set_option maxHeartbeats 4000000 in
theorem mvalid_e (w : World) (hy : Lay v k r lam (ils rs) t s) (hm : IMat w (.slice A rs.length c) rs) (hM : Sl w 4 (.slice M m mc) m (mvs ms)) (hl : ms.length = m) (hs1 : 1 ≤ s) (hk12 : k ≤ 12) (ho : MOk v k r t rs.length s (ils rs) ms) :
   Calls Tryz.prog 27 #[layV v A c rs t s, .slice M m mc] w fun e w' => e = .returned (.bool true) ∧ Below w.heap.size w w' := by
 have hck := fun w' hb => mcheck_e w' hy (hm.below (w' := w') hb) (hM.below hb) hl hs1 hk12 ho
 generalize t * r = tr at *
 refine calls_wc (args := [layV v A c rs t s, .slice M m mc]) [4] [] Tryz.func27 rfl Tryz.ntmps27 rfl rfl rfl rfl (H.refl _) ?_
 refine uS rfl fun K hK => ?_
 refine WL.want rfl (WL1.box rfl rfl (.mk (v := .agg _) rfl rfl) rfl (fun b2 => ?_))
 refine jm rfl rfl ?_
 refine wN hK ?_; clear hK
 refine uS rfl fun K hK => ?_
 refine wG rfl rfl (g_loadA rfl (.mk rfl rfl) rfl rfl (rdr_pt (.head _) (fun j u h => by simpa using h))) ?_
 refine jm rfl rfl ?_
 refine WL.want rfl (WL1.callP rfl rfl rfl (.cons (.mk (v := .agg _) rfl rfl) (.cons (.mk (v := .slice _ _ _) rfl rfl) .nil)) (fun w hw => hck w hw.1) ?_)
 iterate 3 refine jm rfl rfl ?_
 refine WL.want rfl (WL1.alloc rfl rfl rfl rfl (fun b5 => ?_))
 refine WL.want rfl (WL1.storeAll rfl rfl (.mk rfl rfl) (.mk rfl rfl) rfl (all1 rfl) (by first | rfl | (simp [Blk.len]; done)) (.head) ?_)
 refine jm rfl rfl ?_
 refine wN hK ?_; clear hK
 refine uS rfl fun K hK => ?_
 iterate 2 refine jm rfl rfl ?_
 refine wN hK ?_; clear hK
 refine WC.ret ?_
 exact fun w' hw' => ⟨rfl, hw'.1⟩
set_option maxHeartbeats 4000000 in
theorem mwhere_e {G p : Nat} (w : World) (hy : Lay v k r lam (ils rs) t s) (hm : IMat w (.slice A rs.length c) rs) (hM : Sl w 4 (.slice M m mc) m (mvs ms)) (hl : ms.length = m) (hs1 : 1 ≤ s) (hk12 : k ≤ 12) (ho : MOk v k r t rs.length s (ils rs) ms) (hG : G < t * rs.length) (hp : p < k) :
   Calls Tryz.prog 69 #[layV v A c rs t s, .slice M m mc, iv G, iv p] w fun e w' => e = .returned (.tuple #[plV (whD (ils rs) rs.length k ms G p) (whB (ils rs) rs.length k r ms G p), iv 0]) ∧ Below w.heap.size w w' := by
 have hm1 : m ≤ 1000 := by rw [← hl]; exact ho.len
 have hck := fun w' hb => mcheck_e w' hy (hm.below (w' := w') hb) (hM.below hb) hl hs1 hk12 ho
 have hho := fun w' hb => home_e w' hy (hm.below (w' := w') hb) hG hp
 have hwh := fun w' hb => swhere_e (hs := t * r) (bl := t * r + s) w' hy (hm.below (w' := w') hb) (hM.below hb) hl hm1 ho.inc hG hp
 generalize whD (ils rs) rs.length k ms G p = x1 at *
 generalize whB (ils rs) rs.length k r ms G p = x2 at *
 generalize hmD (ils rs) rs.length k G p = x3 at *
 generalize hmB (ils rs) rs.length k r G p = x4 at *
 generalize t * r = tr at *
 refine calls_wcG (args := [layV v A c rs t s, .slice M m mc, iv G, iv p]) [.cell 8 74, .tmp 9] [] Tryz.func69 rfl Tryz.ntmps69 rfl rfl (H.refl _) ?_
 refine uS rfl fun K hK => ?_
 refine WL.want rfl (WL1.box rfl rfl (.mk (v := .agg _) rfl rfl) rfl (fun b4 => ?_))
 refine WL.want rfl (WL1.alloc rfl rfl rfl rfl (fun b8 => ?_))
 refine jm rfl rfl ?_
 refine wN hK ?_; clear hK
 refine uS rfl fun K hK => ?_
 refine wG rfl rfl (g_loadA rfl (.mk rfl rfl) rfl rfl (rdr_pt (.tail _ (.head _)) (fun j u h => by simpa using h))) ?_
 refine jm rfl rfl ?_
 refine WL.want rfl (WL1.callP rfl rfl rfl (.cons (.mk (v := .agg _) rfl rfl) (.cons (.mk (v := .slice _ _ _) rfl rfl) .nil)) (fun w hw => hck w hw.1) ?_)
 iterate 3 refine jm rfl rfl ?_
 refine WL.want rfl (WL1.alloc rfl rfl rfl rfl (fun b10 => ?_))
 refine WL.want rfl (WL1.storeAll rfl rfl (.mk rfl rfl) (.mk rfl rfl) rfl (all1 rfl) (by first | rfl | (simp [Blk.len]; done)) (.head) ?_)
 refine jm rfl rfl ?_
 refine wN hK ?_; clear hK
 refine WC.seq fun K hK => ?_
 refine uS rfl fun K hK => ?_
 iterate 2 refine jm rfl rfl ?_
 refine wN hK ?_; clear hK
 refine uF rfl rfl ?_
 refine WC.skip ?_
 (refine hK _ _ ?_; clear hK)
 refine WC.seq fun K hK => ?_
 refine uS rfl fun K hK => ?_
 refine wG rfl rfl (g_loadA rfl (.mk rfl rfl) rfl rfl (rdr_pt (.tail _ (.tail _ (.head _))) (fun j u h => by simpa using h))) ?_
 iterate 2 refine jm rfl rfl ?_
 refine WL.want rfl (WL1.callP rfl rfl rfl (.cons (.mk (v := .agg _) rfl rfl) (.cons (.mk (v := .int _ _) rfl rfl) (.cons (.mk (v := .int _ _) rfl rfl) .nil))) (fun w hw => hho w hw.1) ?_)
 iterate 3 refine jm rfl rfl ?_
 refine WL.want rfl (WL1.alloc rfl rfl rfl rfl (fun b12 => ?_))
 refine WL.want rfl (WL1.storeAll rfl rfl (.mk rfl rfl) (.mk rfl rfl) rfl (all1 rfl) (by first | rfl | (simp [Blk.len]; done)) (.head) ?_)
 refine jm rfl rfl ?_
 refine wN hK ?_; clear hK
 refine uS rfl fun K hK => ?_
 refine jm rfl rfl ?_
 refine jf rfl rfl (by omega) ?_
 refine wN hK ?_; clear hK
 refine uF rfl rfl ?_
 refine WC.skip ?_
 (refine hK _ _ ?_; clear hK)
 refine uS rfl fun K hK => ?_
 refine wG rfl rfl (g_loadA rfl (.mk rfl rfl) rfl rfl (rdr_pt (.tail _ (.head _)) (fun j u h => by simpa using h))) ?_
 iterate 2 refine jm rfl rfl ?_
 refine WL.want rfl (WL1.callP rfl rfl rfl (.cons (.mk (v := .agg _) rfl rfl) (.cons (.mk (v := .int _ _) rfl rfl) (.cons (.mk (v := .int _ _) rfl rfl) .nil))) (fun w hw => hwh w hw.1) ?_)
 refine WL.want rfl (WL1.storeAll rfl rfl (.mk rfl rfl) (.mk rfl rfl) rfl (all1 rfl) (by first | rfl | (simp [Blk.len]; done)) (.tail (.tail (.head))) ?_)
 refine jm rfl rfl ?_
 refine wN hK ?_; clear hK
 refine WC.ret ?_
 exact ⟨_, .cell rfl rfl rfl rfl (by repeat constructor) (.tmp rfl rfl .nil), fun w' hw' => ⟨rfl, hw'.1⟩⟩
theorem elMv : Elem Tryz.prog 72 MVT (.agg #[iv 0, iv 0, iv 0, iv 0]) 4 32 := ⟨by kernel_rfl, by kernel_rfl, rfl, by decide⟩
set_option maxHeartbeats 1000000 in
theorem clonem_n (w : World) (hs : Sl w 4 (.slice M m mc) m (mvs ms)) (h2 : m ≤ 1000) (h0 : m = 0 → M = none ∧ mc = 0) (hl : ms.length = m) : Calls Tryz.prog 57 #[.slice M m mc] w fun e w' => ∃ v' N, e = .returned v' ∧ H w N w' ∧
   ∃ R q, v' = .slice R m q ∧ N = [vec R m q MVT 4 (mvs ms)] := by
 by_cases h1 : m = 0
 · obtain ⟨rfl, rfl⟩ := h0 h1
   subst h1
   have hms : ms = [] := List.eq_nil_of_length_eq_zero hl
   subst hms
   refine calls_wc (args := [.slice none 0 0]) [2] [] Tryz.func57 rfl Tryz.ntmps57 rfl rfl rfl rfl (H.refl _) ?_
   refine uS rfl fun K hK => ?_
   refine jm rfl rfl ?_
   refine wN hK ?_; clear hK
   refine WC.seq fun K hK => ?_
   refine uS rfl fun K hK => ?_
   refine jm rfl rfl ?_
   refine wG rfl rfl (g_eqSNN rfl rfl (.mk rfl rfl) (.mk rfl rfl)) ?_
   refine wN hK ?_; clear hK
   refine uT rfl rfl ?_
   refine uS rfl fun K hK => ?_
   refine jm rfl rfl ?_
   refine wN hK ?_; clear hK
   refine WC.ret ?_
   exact fun w' hw' => ⟨_, _, rfl, hw'.nilvec MVT 4, none, 0, rfl, rfl⟩
 · have hA := sl_some hs (by omega)
   have hone := mvs_one ms
   refine calls_wc (args := [.slice M m mc]) [2] [] Tryz.func57 rfl Tryz.ntmps57 rfl rfl rfl rfl (H.refl _) ?_
   refine uS rfl fun K hK => ?_
   refine jm rfl rfl ?_
   refine wN hK ?_; clear hK
   refine WC.seq fun K hK => ?_
   refine uS rfl fun K hK => ?_
   refine jm rfl rfl ?_
   refine wG rfl rfl (g_eqSNS rfl rfl (.mk rfl rfl) (.mk rfl rfl) ((fun _ _ => sl_some hs (by omega)))) ?_
   refine wN hK ?_; clear hK
   refine uF rfl rfl ?_
   refine WC.skip ?_
   (refine hK _ _ ?_; clear hK)
   refine uS rfl fun K hK => ?_
   refine WL.want rfl (WL1.lit (cs := []) elMv rfl rfl rfl .nil rfl (by first | (simp [Value.cells]; done) | fail) rfl rfl (fun b5 => ?_))
   refine jm rfl rfl ?_
   refine WL.want rfl (WL1.append elMv rfl rfl (.mk rfl rfl) (.mk rfl rfl) (.head) (fun w hw => Sl.below hs hw.1) hone (by unfold maxLen; omega) (by omega) (fun A7 c7 => ?_))
   refine jm rfl rfl ?_
   refine wN hK ?_; clear hK
   refine WC.ret ?_
   exact fun w' hw' => ⟨_, _, rfl, hw', A7, c7, by show Value.slice A7 (0 + m) c7 = _; rw [Nat.zero_add], by rw [Nat.zero_add, List.nil_append]⟩
set_option maxHeartbeats 4000000 in
theorem insert_f {w0 w : World} {L0 : List Asrt} {R : Option Addr} {q b : Nat} {mv : Mv} (hm : m ≤ 1000) (hw : H w0 (vec R m q MVT 4 (mvs ms) :: vec (some ⟨b, 0, none⟩) 1 1 MVT 4 mv.cells :: L0) w) :
   Calls Tryz.prog 66 #[.slice R m q, iv m, .slice (some ⟨b, 0, none⟩) 1 1] w fun e w' => ∃ u L', e = .returned u ∧ H w0 L' w' ∧ ∃ F fc, u = .slice F (m + 1) fc ∧ L' = vec F (m + 1) fc MVT 4 (mvs (ms ++ [mv])) :: L0 := by
 have hone := mv.one
 refine calls_wc (args := [.slice R m q, iv m, .slice (some ⟨b, 0, none⟩) 1 1]) [6] (vec R m q MVT 4 (mvs ms) :: vec (some ⟨b, 0, none⟩) 1 1 MVT 4 mv.cells :: L0) Tryz.func66 rfl Tryz.ntmps66 rfl rfl rfl rfl hw ?_
 refine uS rfl fun K hK => ?_
 refine jm rfl rfl ?_
 refine wN hK ?_; clear hK
 refine uS rfl fun K hK => ?_
 iterate 2 refine jm rfl rfl ?_
 refine wG rfl rfl (g_sliceC (l := m) (h := m) (sz := 4) (kl := .i64) (p := m) (kh := .i64) (q := 0) rfl (.mk rfl rfl) rfl rfl ⟨.mk rfl rfl, rfl⟩ rfl (Nat.le_refl _) (fun w hw => vec_cap hw (by repeat constructor))) ?_
 refine wN hK ?_; clear hK
 refine uS rfl fun K hK => ?_
 refine jm rfl rfl ?_
 refine jn rfl rfl rfl ?_
 refine jm rfl rfl ?_
 refine wN hK ?_; clear hK
 refine WC.seq fun K hK => ?_
 refine uS rfl fun K hK => ?_
 refine jm rfl rfl ?_
 refine jf rfl rfl (by omega) ?_
 refine wN hK ?_; clear hK
 refine uF rfl rfl ?_
 refine WC.skip ?_
 (refine hK _ _ ?_; clear hK)
 refine uS rfl fun K hK => ?_
 refine jm rfl rfl ?_
 refine jn rfl rfl rfl ?_
 refine jm rfl rfl ?_
 refine wN hK ?_; clear hK
 refine WC.seq fun K hK => ?_
 refine uS rfl fun K hK => ?_
 iterate 2 refine jm rfl rfl ?_
 refine jt rfl rfl (by omega) ?_
 refine wN hK ?_; clear hK
 refine uT rfl rfl ?_
 refine uS rfl fun K hK => ?_
 iterate 2 refine jm rfl rfl ?_
 refine WL.want rfl (WL1.append elMv rfl rfl (.mk rfl rfl) (.mk rfl rfl) (.head) (fun w hw => Sl.of_vec hw (.tail _ (.head _))) hone (by unfold maxLen; omega) (by omega) (fun A25 c25 => ?_))
 refine jm rfl rfl ?_
 refine wN hK ?_; clear hK
 refine WC.ret ?_
 exact fun w' hw' => ⟨_, _, rfl, (Imp.pick (by repeat constructor) (Imp.skip (Imp.refl _))).h hw', A25, c25, rfl, by rw [← mvs_snoc]⟩
set_option maxHeartbeats 16000000 in
theorem apply_m {mv : Mv} (w : World) (hy : Lay v k r lam (ils rs) t s) (hm : IMat w (.slice A rs.length c) rs) (hM : Sl w 4 (.slice M m mc) m (mvs ms)) (hl : ms.length = m) (h0 : m = 0 → M = none ∧ mc = 0) (hs1 : 1 ≤ s) (hk12 : k ≤ 12) (ho : MOk v k r t rs.length s (ils rs) ms) (ho2 : MOk v k r t rs.length s (ils rs) (ms ++ [mv])) :
   Calls Tryz.prog 23 #[layV v A c rs t s, .slice M m mc, mvV mv] w fun e w' => ∃ u N, e = .returned u ∧ H w N w' ∧ ∃ F fc, u = .tuple #[.slice F (m + 1) fc, iv 0] ∧ N = [vec F (m + 1) fc MVT 4 (mvs (ms ++ [mv]))] := by
 have hcap := hy.cap
 have hgrp := hy.grp'
 have hm1 : m ≤ 1000 := by rw [← hl]; exact ho.len
 have hl2 : (ms ++ [mv]).length = m + 1 := by rw [List.length_append, hl]; rfl
 have hm2 : m + 1 ≤ 1000 := by rw [← hl2]; exact ho2.len
 have hnth : nth (ms ++ [mv]) m = mv := by rw [nth_eq (by omega), List.getElem_append_right (by omega)]; simp [hl]
 have hnlo : ∀ i, i < m → nth (ms ++ [mv]) i = nth ms i := fun i hi => by rw [nth_eq (by omega), List.getElem_append_left (by omega), nth_eq (by omega)]
 have hG : mv.g < t * rs.length := by have := ho2.g m (by omega); rwa [hnth] at this
 have hP : mv.p < k := by have := ho2.p m (by omega); rwa [hnth] at this
 have hAp : SInc (isort (dskL (ils rs) rs.length k (ms ++ [mv]) mv.g)) := by have := ho2.ap m (by omega); rwa [hnth] at this
 have hless : ∀ a, a < m → lesM (nth ms a) mv.g mv.p = true := fun a ha => by
   have := ho2.inc.lt m a ha (by omega)
   rw [hnth, hnlo a ha] at this
   exact lesM_iff.2 (.inl this)
 have hpos : posN ms mv.g mv.p = m := posN_at (by omega) hless fun a h1 h2 => by omega
 have hfnd : fndB ms mv.g mv.p = false := by unfold fndB; rw [hpos, hl, decide_eq_false (Nat.lt_irrefl m), Bool.false_and]
 have hval := fun w' hb => mvalid_e w' hy (hm.below (w' := w') hb) (hM.below hb) hl hs1 hk12 ho
 have hho := fun w' hb => home_e w' hy (hm.below (w' := w') hb) hG hP
 have hcl := fun w' hb => clonem_n w' (hM.below (w' := w') hb) hm1 h0 hl
 have hbs := fun w' R q h => bsearch_e (A := R) (c := q) (g := mv.g) (p := mv.p) (ms := ms) w' h hl hm1 ho.inc
 rw [hpos, hfnd] at hbs
 have hbl := fun w' hb => lblocks_e w' hy (hm.below (w' := w') hb)
 have hcast : ((t * r : Nat) : Int) + (s : Int) = ((t * r + s : Nat) : Int) := by omega
 rw [hcast] at hbl
 have hsub : IntKind.i64.wrap (((t * r + s : Nat) : Int) - (s : Int)) = ((t * r : Nat) : Int) := by rw [IntWalk.i64_in _ (by omega)]; omega
 have hval2 := fun w' F fc hb h => mvalid_e (M := F) (mc := fc) w' hy (hm.below (w' := w') hb) h hl2 hs1 hk12 ho2
 have hapt := fun w' F fc hb h => apart_e (M := F) (mc := fc) (t := t) (s := s) (hs := t * r) (bl := t * r + s) (G := mv.g) w' hy.d (hm.below (w' := w') hb) h hl2 hm2 ho2.inc (fun i hi => ho2.p i (by omega)) (by omega) hk12 hAp
 generalize hmD (ils rs) rs.length k mv.g mv.p = x3 at *
 generalize hmB (ils rs) rs.length k r mv.g mv.p = x4 at *
 generalize t * r = tr at *
 obtain ⟨xg, xp, xd, xb⟩ := mv
 refine calls_wc (args := [layV v A c rs t s, .slice M m mc, .agg #[iv xg, iv xp, iv xd, iv xb]]) [6, 7] [] Tryz.func23 rfl Tryz.ntmps23 rfl rfl rfl rfl (H.refl _) ?_
 refine uS rfl fun K hK => ?_
 refine WL.want rfl (WL1.box rfl rfl (.mk (v := .agg _) rfl rfl) rfl (fun b3 => ?_))
 refine WL.want rfl (WL1.box rfl rfl (.mk (v := .agg _) rfl rfl) rfl (fun b5 => ?_))
 iterate 2 refine jm rfl rfl ?_
 refine wN hK ?_; clear hK
 refine WC.seq fun K hK => ?_
 refine uS rfl fun K hK => ?_
 refine wG rfl rfl (g_loadA rfl (.mk rfl rfl) rfl rfl (rdr_pt (.tail _ (.head _)) (fun j u h => by simpa using h))) ?_
 refine jm rfl rfl ?_
 refine WL.want rfl (WL1.callP rfl rfl rfl (.cons (.mk (v := .agg _) rfl rfl) (.cons (.mk (v := .slice _ _ _) rfl rfl) .nil)) (fun w hw => hval w hw.1) ?_)
 refine jm rfl rfl ?_
 refine wN hK ?_; clear hK
 refine uF rfl rfl ?_
 refine WC.skip ?_
 (refine hK _ _ ?_; clear hK)
 refine WC.seq fun K hK => ?_
 refine uS rfl fun K hK => ?_
 refine wG rfl rfl (g_loadA rfl (.mk rfl rfl) rfl rfl (rdr_pt (.tail _ (.head _)) (fun j u h => by simpa using h))) ?_
 refine ja 0 rfl rfl rfl rfl ?_
 refine jl rfl rfl rfl (rd_pt (.head _) rfl) ?_
 refine ja 1 rfl rfl rfl rfl ?_
 refine jl rfl rfl rfl (rd_pt (.head _) rfl) ?_
 refine WL.want rfl (WL1.callP rfl rfl rfl (.cons (.mk (v := .agg _) rfl rfl) (.cons (.mk (v := .int _ _) rfl rfl) (.cons (.mk (v := .int _ _) rfl rfl) .nil))) (fun w hw => hho w hw.1) ?_)
 iterate 3 refine jm rfl rfl ?_
 refine WL.want rfl (WL1.alloc rfl rfl rfl rfl (fun b8 => ?_))
 refine WL.want rfl (WL1.storeAll rfl rfl (.mk rfl rfl) (.mk rfl rfl) rfl (all1 rfl) (by first | rfl | (simp [Blk.len]; done)) (.head) ?_)
 refine jm rfl rfl ?_
 refine wN hK ?_; clear hK
 refine uS rfl fun K hK => ?_
 refine jm rfl rfl ?_
 refine jf rfl rfl (by omega) ?_
 refine wN hK ?_; clear hK
 refine uF rfl rfl ?_
 refine WC.skip ?_
 (refine hK _ _ ?_; clear hK)
 refine uS rfl fun K hK => ?_
 refine jm rfl rfl ?_
 (refine WL.want rfl (WL1.callN rfl rfl rfl (.cons (.mk (v := .slice _ _ _) rfl rfl) .nil) (fun w hw => hcl w hw.1) ?_); rintro _ _ ⟨R, q, rfl, rfl⟩)
 refine jm rfl rfl ?_
 refine wN hK ?_; clear hK
 refine uS rfl fun K hK => ?_
 refine jm rfl rfl ?_
 refine ja 0 rfl rfl rfl rfl ?_
 refine jl rfl rfl rfl (rd_pt (.tail _ (.tail _ (.head _))) rfl) ?_
 refine ja 1 rfl rfl rfl rfl ?_
 refine jl rfl rfl rfl (rd_pt (.tail _ (.tail _ (.head _))) rfl) ?_
 refine wG rfl rfl (g_build (cs := [_, _]) rfl rfl rfl rfl (.cons (.mk (v := .int _ _) rfl rfl) (.cons (.mk (v := .int _ _) rfl rfl) .nil)) rfl rfl rfl) ?_
 refine WL.want rfl (WL1.callP rfl rfl rfl (.cons (.mk (v := .slice _ _ _) rfl rfl) (.cons (.mk (v := .agg _) rfl rfl) (.cons (.mk (v := .func _ _ _) rfl rfl) .nil))) (fun w hw => hbs w _ _ (Sl.of_vec hw (by repeat constructor))) ?_)
 iterate 5 refine jm rfl rfl ?_
 refine wN hK ?_; clear hK
 refine WC.seq fun K hK => ?_
 refine WC.block ?_
 refine uS rfl fun K hK => ?_
 refine ja 2 rfl rfl rfl rfl ?_
 refine ja 0 rfl rfl rfl rfl ?_
 refine jl rfl rfl rfl (rd_pt (.tail _ (.tail _ (.head _))) rfl) ?_
 refine jf rfl rfl (by omega) ?_
 refine jm rfl rfl ?_
 iterate 2 refine ut rfl rfl ?_
 iterate 2 refine jm rfl rfl ?_
 refine wN hK ?_; clear hK
 refine uF rfl rfl ?_
 refine uS rfl fun K hK => ?_
 refine ja 2 rfl rfl rfl rfl ?_
 refine ja 0 rfl rfl rfl rfl ?_
 refine jl rfl rfl rfl (rd_pt (.tail _ (.tail _ (.head _))) rfl) ?_
 refine jf rfl rfl (by omega) ?_
 refine jm rfl rfl ?_
 refine wN hK ?_; clear hK
 refine uF rfl rfl ?_
 refine uS rfl fun K hK => ?_
 iterate 2 refine jm rfl rfl ?_
 refine wN hK ?_; clear hK
 refine uF rfl rfl ?_
 refine WC.region rfl ?_
 iterate 2 refine jm rfl rfl ?_
 refine wG rfl rfl (g_loadA rfl (.mk rfl rfl) rfl rfl (rdr_pt (.tail _ (.tail _ (.head _))) (fun j u h => by simpa using h))) ?_
 refine WL.want rfl (WL1.lit (cs := [_, _, _, _]) elMv rfl rfl rfl (.cons (.mk (v := .agg _) rfl rfl) .nil) rfl (by first | (simp [Value.cells]; done) | fail) rfl rfl (fun b45 => ?_))
 (refine WL.want rfl (WL1.callF rfl rfl rfl (.cons (.mk (v := .slice _ _ _) rfl rfl) (.cons (.mk (v := .int _ _) rfl rfl) (.cons (.mk (v := .slice _ _ _) rfl rfl) .nil))) (fun w hw => insert_f (mv := ⟨xg, xp, xd, xb⟩) (ms := ms) (m := m) hm1 ((Imp.pick (by repeat constructor) (Imp.pick (by repeat constructor) (Imp.refl _))).h hw)) ?_); rintro _ _ ⟨F, fc, rfl, rfl⟩)
 refine jm rfl rfl ?_
 refine wN hK ?_; clear hK
 refine WC.seq fun K hK => ?_
 refine WC.untilL [11] rfl (by kernel_rfl) ?_
 refine uB 0 rfl (by decide +kernel) (iS (by repeat constructor)) rfl ⟨rfl, g_loadA rfl (.mk rfl rfl) rfl rfl (rdr_pt (.tail _ (.tail _ (.tail _ (.head _)))) (fun j u h => by simpa using h))⟩ ?_
 refine uP 1 rfl (by decide +kernel) (.inr (iS (by repeat constructor))) rfl rfl ?_
 refine uB 2 rfl (by decide +kernel) (iS (by repeat constructor)) rfl ⟨rfl, g_loadA rfl (.mk rfl rfl) rfl rfl (rdr_pt (.tail _ (.tail _ (.tail _ (.head _)))) (fun j u h => by simpa using h))⟩ ?_
 refine uG 4 rfl (by decide +kernel) (.inr (iS (by repeat constructor))) rfl (Ga 3 rfl rfl rfl) ?_
 refine uB 5 rfl (by decide +kernel) (iS (by repeat constructor)) rfl (Gl rfl rfl (rd_pt (.tail _ (.tail _ (.tail _ (.head _)))) rfl)) ?_
 refine uB 7 rfl (by decide +kernel) (iS (by repeat constructor)) rfl ⟨rfl, g_loadA rfl (.mk rfl rfl) rfl rfl (rdr_pt (.tail _ (.tail _ (.tail _ (.head _)))) (fun j u h => by simpa using h))⟩ ?_
 refine WB.two 3 10 (by decide +kernel) rfl rfl rfl rfl ?_ ?_
 refine WL1.callP rfl rfl rfl (.cons (.mk (v := .agg _) rfl rfl) .nil) (fun w hw => hbl w hw.1) ?_
 refine WL.nil ?_
 refine ⟨.inr (iS (by repeat constructor)), ?_⟩
 refine uG 6 rfl (by decide +kernel) (.inr (iS (by repeat constructor))) rfl ⟨rfl, g_sub rfl (.mk rfl rfl) (.mk rfl rfl) hsub⟩ ?_
 refine WB.two 8 10 (by decide +kernel) rfl rfl rfl rfl ?_ ?_
 refine WL1.callP rfl rfl rfl (.cons (.mk (v := .agg _) rfl rfl) .nil) (fun w hw => hbl w hw.1) ?_
 refine WL.nil ?_
 refine ⟨.inr (iS (by repeat constructor)), ?_⟩
 refine uG 9 rfl (by decide +kernel) (.inr (iS (by repeat constructor))) rfl ⟨rfl, g_buildS (us := [(0, [iv v, .slice A rs.length c, iv t, iv s]), (1, [.slice F (m + 1) fc]), (2, [_]), (3, [_])]) (cs := [iv v, .slice A rs.length c, iv t, iv s, .slice F (m + 1) fc, iv tr, iv ((tr + s : Nat) : Int)]) rfl rfl rfl rfl (.cons (.mk (v := .agg _) rfl rfl) (.cons (.mk (v := .slice _ _ _) rfl rfl) (.cons (.mk (v := .int _ _) rfl rfl) (.cons (.mk (v := .int _ _) rfl rfl) .nil)))) rfl (fun p hp => by simp only [List.mem_cons, List.not_mem_nil, or_false] at hp; rcases hp with rfl | rfl | rfl | rfl <;> exact ⟨_, _, rfl, rfl, Nat.le_of_ble_eq_true rfl⟩) rfl⟩ ?_
 refine WB.one 10 (by decide +kernel) rfl rfl ?_
 refine WL1.alloc rfl rfl rfl rfl (fun b13 => ?_)
 refine WL.nil ?_
 refine ⟨.inr (iS (by repeat constructor)), ?_⟩
 refine WB.one 11 (by decide +kernel) rfl rfl ?_
 refine WL1.storeAll rfl rfl (.mk rfl rfl) (.mk rfl rfl) rfl (all1 rfl) (by first | rfl | (simp [Blk.len]; done)) (.head) ?_
 refine WL.nil ?_
 refine ⟨.inl (by decide +kernel), ?_⟩
 refine WB.done (by decide +kernel) ?_
 (refine hK _ _ ?_; clear hK)
 refine WC.seq fun K hK => ?_
 refine uS rfl fun K hK => ?_
 refine wG rfl rfl (g_loadA rfl (.mk rfl rfl) rfl rfl (rdr_pt (.tail _ (.tail _ (.tail _ (.tail _ (.head _))))) (fun j u h => by simpa using h))) ?_
 refine jm rfl rfl ?_
 refine WL.want rfl (WL1.callP rfl rfl rfl (.cons (.mk (v := .agg _) rfl rfl) (.cons (.mk (v := .slice _ _ _) rfl rfl) .nil)) (fun w hw => hval2 w _ _ hw.1 (Sl.of_vec hw (by repeat constructor))) ?_)
 iterate 2 refine jm rfl rfl ?_
 refine qW rfl (WL1.give rfl (g_loadA rfl (.mk rfl rfl) rfl rfl (rdr_pt (.head _) (fun j u h => by simpa using h))) ?_)
 refine qa 0 rfl rfl rfl rfl ?_
 refine ql rfl rfl rfl (rd_pt (.tail _ (.tail _ (.tail _ (.head _)))) rfl) ?_
 refine qW rfl (WL1.callP rfl rfl rfl (.cons (.mk (v := .agg _) rfl rfl) (.cons (.mk (v := .int _ _) rfl rfl) .nil)) (fun w hw => hapt w _ _ hw.1 (Sl.of_vec hw (by repeat constructor))) ?_)
 refine qm rfl rfl ?_
 refine jm rfl rfl ?_
 refine wN hK ?_; clear hK
 refine uF rfl rfl ?_
 refine WC.skip ?_
 (refine hK _ _ ?_; clear hK)
 refine uS rfl fun K hK => ?_
 iterate 3 refine jm rfl rfl ?_
 refine wN hK ?_; clear hK
 refine WC.ret ?_
 rotate_left
 refine WL1.alloc rfl rfl rfl rfl (fun b13 => ?_)
 refine WL.nil ?_
 refine ⟨.inr (iS (by repeat constructor)), ?_⟩
 refine WB.one 8 (by decide +kernel) rfl rfl ?_
 refine WL1.callP rfl rfl rfl (.cons (.mk (v := .agg _) rfl rfl) .nil) (fun w hw => hbl w hw.1) ?_
 refine WL.nil ?_
 refine ⟨.inr (iS (by repeat constructor)), ?_⟩
 refine uG 9 rfl (by decide +kernel) (.inr (iS (by repeat constructor))) rfl ⟨rfl, g_buildS (us := [(0, [iv v, .slice A rs.length c, iv t, iv s]), (1, [.slice F (m + 1) fc]), (2, [_]), (3, [_])]) (cs := [iv v, .slice A rs.length c, iv t, iv s, .slice F (m + 1) fc, iv tr, iv ((tr + s : Nat) : Int)]) rfl rfl rfl rfl (.cons (.mk (v := .agg _) rfl rfl) (.cons (.mk (v := .slice _ _ _) rfl rfl) (.cons (.mk (v := .int _ _) rfl rfl) (.cons (.mk (v := .int _ _) rfl rfl) .nil)))) rfl (fun p hp => by simp only [List.mem_cons, List.not_mem_nil, or_false] at hp; rcases hp with rfl | rfl | rfl | rfl <;> exact ⟨_, _, rfl, rfl, Nat.le_of_ble_eq_true rfl⟩) rfl⟩ ?_
 refine WB.one 11 (by decide +kernel) rfl rfl ?_
 refine WL1.storeAll rfl rfl (.mk rfl rfl) (.mk rfl rfl) rfl (all1 rfl) (by first | rfl | (simp [Blk.len]; done)) (.head) ?_
 refine WL.nil ?_
 refine ⟨.inl (by decide +kernel), ?_⟩
 refine WB.done (by decide +kernel) ?_
 (refine hK _ _ ?_; clear hK)
 refine WC.seq fun K hK => ?_
 refine uS rfl fun K hK => ?_
 refine wG rfl rfl (g_loadA rfl (.mk rfl rfl) rfl rfl (rdr_pt (.tail _ (.tail _ (.tail _ (.tail _ (.head _))))) (fun j u h => by simpa using h))) ?_
 refine jm rfl rfl ?_
 refine WL.want rfl (WL1.callP rfl rfl rfl (.cons (.mk (v := .agg _) rfl rfl) (.cons (.mk (v := .slice _ _ _) rfl rfl) .nil)) (fun w hw => hval2 w _ _ hw.1 (Sl.of_vec hw (by repeat constructor))) ?_)
 iterate 2 refine jm rfl rfl ?_
 refine qW rfl (WL1.give rfl (g_loadA rfl (.mk rfl rfl) rfl rfl (rdr_pt (.head _) (fun j u h => by simpa using h))) ?_)
 refine qa 0 rfl rfl rfl rfl ?_
 refine ql rfl rfl rfl (rd_pt (.tail _ (.tail _ (.tail _ (.head _)))) rfl) ?_
 refine qW rfl (WL1.callP rfl rfl rfl (.cons (.mk (v := .agg _) rfl rfl) (.cons (.mk (v := .int _ _) rfl rfl) .nil)) (fun w hw => hapt w _ _ hw.1 (Sl.of_vec hw (by repeat constructor))) ?_)
 refine qm rfl rfl ?_
 refine jm rfl rfl ?_
 refine wN hK ?_; clear hK
 refine uF rfl rfl ?_
 refine WC.skip ?_
 (refine hK _ _ ?_; clear hK)
 refine uS rfl fun K hK => ?_
 iterate 3 refine jm rfl rfl ?_
 refine wN hK ?_; clear hK
 refine WC.ret ?_
 rotate_left
 refine WL1.alloc rfl rfl rfl rfl (fun b13 => ?_)
 refine WL.nil ?_
 refine ⟨.inr (iS (by repeat constructor)), ?_⟩
 refine WB.one 3 (by decide +kernel) rfl rfl ?_
 refine WL1.callP rfl rfl rfl (.cons (.mk (v := .agg _) rfl rfl) .nil) (fun w hw => hbl w hw.1) ?_
 refine WL.nil ?_
 refine ⟨.inr (iS (by repeat constructor)), ?_⟩
 refine uG 6 rfl (by decide +kernel) (.inr (iS (by repeat constructor))) rfl ⟨rfl, g_sub rfl (.mk rfl rfl) (.mk rfl rfl) hsub⟩ ?_
 refine WB.one 8 (by decide +kernel) rfl rfl ?_
 refine WL1.callP rfl rfl rfl (.cons (.mk (v := .agg _) rfl rfl) .nil) (fun w hw => hbl w hw.1) ?_
 refine WL.nil ?_
 refine ⟨.inr (iS (by repeat constructor)), ?_⟩
 refine uG 9 rfl (by decide +kernel) (.inr (iS (by repeat constructor))) rfl ⟨rfl, g_buildS (us := [(0, [iv v, .slice A rs.length c, iv t, iv s]), (1, [.slice F (m + 1) fc]), (2, [_]), (3, [_])]) (cs := [iv v, .slice A rs.length c, iv t, iv s, .slice F (m + 1) fc, iv tr, iv ((tr + s : Nat) : Int)]) rfl rfl rfl rfl (.cons (.mk (v := .agg _) rfl rfl) (.cons (.mk (v := .slice _ _ _) rfl rfl) (.cons (.mk (v := .int _ _) rfl rfl) (.cons (.mk (v := .int _ _) rfl rfl) .nil)))) rfl (fun p hp => by simp only [List.mem_cons, List.not_mem_nil, or_false] at hp; rcases hp with rfl | rfl | rfl | rfl <;> exact ⟨_, _, rfl, rfl, Nat.le_of_ble_eq_true rfl⟩) rfl⟩ ?_
 refine WB.one 11 (by decide +kernel) rfl rfl ?_
 refine WL1.storeAll rfl rfl (.mk rfl rfl) (.mk rfl rfl) rfl (all1 rfl) (by first | rfl | (simp [Blk.len]; done)) (.head) ?_
 refine WL.nil ?_
 refine ⟨.inl (by decide +kernel), ?_⟩
 refine WB.done (by decide +kernel) ?_
 (refine hK _ _ ?_; clear hK)
 refine WC.seq fun K hK => ?_
 refine uS rfl fun K hK => ?_
 refine wG rfl rfl (g_loadA rfl (.mk rfl rfl) rfl rfl (rdr_pt (.tail _ (.tail _ (.tail _ (.tail _ (.head _))))) (fun j u h => by simpa using h))) ?_
 refine jm rfl rfl ?_
 refine WL.want rfl (WL1.callP rfl rfl rfl (.cons (.mk (v := .agg _) rfl rfl) (.cons (.mk (v := .slice _ _ _) rfl rfl) .nil)) (fun w hw => hval2 w _ _ hw.1 (Sl.of_vec hw (by repeat constructor))) ?_)
 iterate 2 refine jm rfl rfl ?_
 refine qW rfl (WL1.give rfl (g_loadA rfl (.mk rfl rfl) rfl rfl (rdr_pt (.head _) (fun j u h => by simpa using h))) ?_)
 refine qa 0 rfl rfl rfl rfl ?_
 refine ql rfl rfl rfl (rd_pt (.tail _ (.tail _ (.tail _ (.head _)))) rfl) ?_
 refine qW rfl (WL1.callP rfl rfl rfl (.cons (.mk (v := .agg _) rfl rfl) (.cons (.mk (v := .int _ _) rfl rfl) .nil)) (fun w hw => hapt w _ _ hw.1 (Sl.of_vec hw (by repeat constructor))) ?_)
 refine qm rfl rfl ?_
 refine jm rfl rfl ?_
 refine wN hK ?_; clear hK
 refine uF rfl rfl ?_
 refine WC.skip ?_
 (refine hK _ _ ?_; clear hK)
 refine uS rfl fun K hK => ?_
 iterate 3 refine jm rfl rfl ?_
 refine wN hK ?_; clear hK
 refine WC.ret ?_
 rotate_left
 all_goals exact fun w' hw' => ⟨_, _, rfl, (Imp.pick (by repeat constructor) (Imp.nil _)).h hw', F, fc, rfl, rfl⟩
end Go.Proofs.YtdcijljfgcjelaaGreat
namespace Go.Proofs.YtdcijljfgcjelaaGreat
set_option maxRecDepth 20000
open Go.RowKit
attribute [local irreducible] Calls
def chF (ms : List Mv) (busy : List Nat) (dl : List Bool) (s : Nat) : Nat → Nat × Nat
 | 0 => (0, s)
 | d + 1 => let p := chF ms busy dl s d
   cond (!nth dl d && Nat.beq (cntN busy d) 0 && Nat.blt (usL ms d).length p.2) (d + 1, (usL ms d).length) p
def blF (l : List Nat) (h : Nat) : Nat → Nat
 | 0 => h
 | i + 1 => cond (Nat.beq (nth l i) (blF l h i)) (blF l h i + 1) (blF l h i)
theorem blF_le (l : List Nat) (h : Nat) : ∀ i, blF l h i ≤ h + i
 | 0 => Nat.le_refl _
 | i + 1 => by
   have := blF_le l h i
   rw [blF]
   cases Nat.beq (nth l i) (blF l h i) <;> simp only [cond_true, cond_false] <;> omega
variable {v k r lam t s : Nat} {A : Option Addr} {c : Nat} {rs : List IRow} {M : Option Addr} {mc m : Nat} {ms : List Mv}
set_option maxHeartbeats 16000000 in
theorem choose_m {Dd : Option Addr} {dc G bd : Nat} {dl : List Bool} (w : World) (hy : Lay v k r lam (ils rs) t s) (hm : IMat w (.slice A rs.length c) rs) (hM : Sl w 4 (.slice M m mc) m (mvs ms)) (hD : Sl w 1 (.slice Dd v dc) v (bls dl)) (hdl : dl.length = v) (hl : ms.length = m) (hs1 : 1 ≤ s) (hk12 : k ≤ 12) (ho : MOk v k r t rs.length s (ils rs) ms) (hG : G < t * rs.length) (hu12 : ∀ d, d < v → (usL ms d).length ≤ 12)
   (hbd : (chF ms (dskL (ils rs) rs.length k ms G) dl s v).1 = bd + 1) (hbv : bd < v) :
   Calls Tryz.prog 106 #[layV v A c rs t s, .slice M m mc, iv G, .slice Dd v dc] w fun e w' => e = .returned (.tuple #[plV bd (blF (isort (usL ms bd)) (t * r) (usL ms bd).length), iv 0]) ∧ Below w.heap.size w w' := by
 have hcap := hy.cap
 have hgrp := hy.grp'
 have hv60 := hy.d.v60
 have hk60 := hy.d.k60
 have hm1 : m ≤ 1000 := by rw [← hl]; exact ho.len
 have hck := fun w' hb => mcheck_e w' hy (hm.below (w' := w') hb) (hM.below hb) hl hs1 hk12 ho
 have hgr := fun w' hb => lgroups_e w' hy (hm.below (w' := w') hb)
 have hdk := fun w' hb => disks_n (t := t) (s := s) (hs := t * r) (bl := t * r + s) (G := G) w' hy.d (hm.below (w' := w') hb) (hM.below hb) hl hm1 ho.inc (fun i hi => ho.p i (by omega)) (by omega)
 have hus := fun w' hb d hd => used_n (v := v) (A := A) (c := c) (rs := rs) (t := t) (s := s) (hs := t * r) (bl := t * r + s) (d := d) w' (hM.below (w' := w') hb) hl hm1 (hu12 d hd)
 have hbl := dskL_len (ils rs) rs.length k ms G
 generalize dskL (ils rs) rs.length k ms G = busy at *
 generalize hNN : t * rs.length = NN at *
 generalize t * r = tr at *
 have hcn := fun w' B bc x h => contains_e (w := w') (A := B) (c := bc) (l := busy) x hbl (by omega) h
 refine calls_wcG (args := [layV v A c rs t s, .slice M m mc, iv G, .slice Dd v dc]) [.cell 8 74, .tmp 9] [] Tryz.func106 rfl Tryz.ntmps106 rfl rfl (H.refl _) ?_
 refine uS rfl fun K hK => ?_
 refine WL.want rfl (WL1.box rfl rfl (.mk (v := .agg _) rfl rfl) rfl (fun b4 => ?_))
 refine WL.want rfl (WL1.alloc rfl rfl rfl rfl (fun b8 => ?_))
 refine jm rfl rfl ?_
 refine wN hK ?_; clear hK
 refine uS rfl fun K hK => ?_
 refine wG rfl rfl (g_loadA rfl (.mk rfl rfl) rfl rfl (rdr_pt (.tail _ (.head _)) (fun j u h => by simpa using h))) ?_
 refine jm rfl rfl ?_
 refine WL.want rfl (WL1.callP rfl rfl rfl (.cons (.mk (v := .agg _) rfl rfl) (.cons (.mk (v := .slice _ _ _) rfl rfl) .nil)) (fun w hw => hck w hw.1) ?_)
 iterate 3 refine jm rfl rfl ?_
 refine WL.want rfl (WL1.alloc rfl rfl rfl rfl (fun b10 => ?_))
 refine WL.want rfl (WL1.storeAll rfl rfl (.mk rfl rfl) (.mk rfl rfl) rfl (all1 rfl) (by first | rfl | (simp [Blk.len]; done)) (.head) ?_)
 refine jm rfl rfl ?_
 refine wN hK ?_; clear hK
 refine WC.seq fun K hK => ?_
 refine WC.block ?_
 refine uS rfl fun K hK => ?_
 iterate 3 refine jm rfl rfl ?_
 refine qm rfl rfl ?_
 refine qn rfl rfl rfl ?_
 iterate 2 refine qa 0 rfl rfl rfl rfl ?_
 refine ql rfl rfl rfl (rd_pt (.tail _ (.tail _ (.head _))) rfl) ?_
 refine qf rfl rfl (by omega) ?_
 iterate 2 refine jm rfl rfl ?_
 refine wN hK ?_; clear hK
 refine uF rfl rfl ?_
 refine uS rfl fun K hK => ?_
 refine jm rfl rfl ?_
 refine jf rfl rfl (by omega) ?_
 refine jm rfl rfl ?_
 refine qm rfl rfl ?_
 refine qW rfl (WL1.give rfl (g_loadA rfl (.mk rfl rfl) rfl rfl (rdr_pt (.tail _ (.tail _ (.head _))) (fun j u h => by simpa using h))) ?_)
 refine qW rfl (WL1.callP rfl rfl rfl (.cons (.mk (v := .agg _) rfl rfl) .nil) (fun w hw => hgr w hw.1) ?_)
 refine qf rfl rfl (by omega) ?_
 iterate 2 refine jm rfl rfl ?_
 refine wN hK ?_; clear hK
 refine uF rfl rfl ?_
 refine WC.skip ?_
 (refine hK _ _ ?_; clear hK)
 refine uS rfl fun K hK => ?_
 refine wG rfl rfl (g_loadA rfl (.mk rfl rfl) rfl rfl (rdr_pt (.head _) (fun j u h => by simpa using h))) ?_
 refine jm rfl rfl ?_
 (refine WL.want rfl (WL1.callN rfl rfl rfl (.cons (.mk (v := .agg _) rfl rfl) (.cons (.mk (v := .int _ _) rfl rfl) .nil)) (fun w hw => hdk w hw.1) ?_); rintro _ _ ⟨B, bc, rfl, rfl⟩)
 refine jm rfl rfl ?_
 refine wN hK ?_; clear hK
 refine WC.seq fun K hK => ?_
 refine WC.quiet rfl (by kernel_rfl) (by decide +kernel) ?_
 refine ya 3 rfl rfl rfl rfl ?_
 refine yl rfl rfl rfl (rd_pt (.tail _ (.tail _ (.tail _ (.head _)))) rfl) ?_
 iterate 2 refine ym rfl rfl ?_
 refine WQ.nil ?_
 (refine hK _ _ ?_; clear hK)
 refine WC.seq fun K hK => ?_
 refine uS rfl fun K hK => ?_
 iterate 2 refine ja 0 rfl rfl rfl rfl ?_
 refine jl rfl rfl rfl (rd_pt (.tail _ (.tail _ (.tail _ (.head _)))) rfl) ?_
 refine jm rfl rfl ?_
 refine wN hK ?_; clear hK
 refine WC.block ?_
 refine WC.loopF2 (fun (d : Nat) (p : Nat × Nat) => [(56, iv d), (55, iv v), (13, iv ((p.1 : Int) - 1)), (14, iv p.2), (12, .slice B k bc), (3, .slice Dd v dc), (10, cellPtr (some ⟨b10, 0, none⟩) 0), (8, cellPtr (some ⟨b8, 0, none⟩) 0)]) (fun d p => [vec B k bc 3 1 (ldv busy), pt b10 STT [iv v, .slice A rs.length c, iv t, iv s, .slice M m mc, iv tr, iv ((tr + s : Nat) : Int)], pt b8 PT [iv 0, iv 0]]) (fun d p => d ≤ v ∧ p = chF ms busy dl s d ∧ p.1 ≤ d ∧ p.2 ≤ s) (fun d _ => v - d) 0 (0, s) (by repeat (first | exact trivial | refine ⟨rfl, ?_⟩)) (Imp.pick (by repeat constructor) (Imp.pick (by repeat constructor) (Imp.pick (by repeat constructor) (Imp.nil _)))) ⟨by omega, rfl, by omega, by omega⟩ ?_
 rintro d ⟨p1, p2⟩ U ⟨hd, hp, hp1, hp2⟩
 by_cases hlt : d < v
 · have hud := fun w' hb => hus w' hb d hlt
   have hul := hu12 d hlt
   have gD := bls_get (l := dl) (k := d) (by omega)
   have hnx : chF ms busy dl s (d + 1) = cond (!nth dl d && Nat.beq (cntN busy d) 0 && Nat.blt (usL ms d).length p2) (d + 1, (usL ms d).length) (p1, p2) := by
     have e : chF ms busy dl s (d + 1) = cond (!nth dl d && Nat.beq (cntN busy d) 0 && Nat.blt (usL ms d).length (chF ms busy dl s d).2) (d + 1, (usL ms d).length) (chF ms busy dl s d) := rfl
     rw [e, ← hp]
   have hcc := fun w' B bc h => hcn w' B bc d h
   generalize isort (usL ms d) = us at *
   generalize (usL ms d).length = un at *
   rw [blt_iff, nbeq_iff] at hnx
   replace hp1 : p1 ≤ d := hp1
   replace hp2 : p2 ≤ s := hp2
   cases hdd : nth dl d with
   | true =>
     rw [hdd] at gD hnx
     simp only [Bool.not_true, Bool.false_and, cond_false] at hnx
     refine uS rfl fun K hK => ?_
     refine jt rfl rfl (by omega) ?_
     refine wN hK ?_; clear hK
     refine WC.seq fun K hK => ?_
     refine uT rfl rfl ?_
     refine WC.skip ?_
     (refine hK _ _ ?_; clear hK)
     refine WC.seq fun K hK => ?_
     refine WC.block ?_
     refine uS rfl fun K hK => ?_
     iterate 2 refine jm rfl rfl ?_
     refine wN hK ?_; clear hK
     refine uS rfl fun K hK => ?_
     refine wG rfl rfl (g_loadA rfl (.mk rfl rfl) rfl rfl (rdr_pt (.tail _ (.head _)) (fun j u h => by simpa using h))) ?_
     refine jm rfl rfl ?_
     (refine WL.want rfl (WL1.callN rfl rfl rfl (.cons (.mk (v := .agg _) rfl rfl) (.cons (.mk (v := .int _ _) rfl rfl) .nil)) (fun w hw => hud w hw.1) ?_); rintro _ _ ⟨F, fc, rfl, rfl⟩)
     refine jn rfl rfl rfl ?_
     refine jm rfl rfl ?_
     refine wN hK ?_; clear hK
     refine uS rfl fun K hK => ?_
     iterate 2 refine jm rfl rfl ?_
     refine wG rfl rfl (g_indexAddr (sz := 1) rfl (.mk rfl rfl) (.mk rfl rfl) rfl rfl rfl (by omega) (fun _ _ => sl_some hD (by omega))) ?_
     refine jl rfl rfl rfl (rd_sl hD gD) ?_
     iterate 2 refine jm rfl rfl ?_
     iterate 4 refine ut rfl rfl ?_
     iterate 2 refine jm rfl rfl ?_
     iterate 3 refine ut rfl rfl ?_
     refine jm rfl rfl ?_
     refine wN hK ?_; clear hK
     refine uF rfl rfl ?_
     refine WC.skip ?_
     (refine hK _ _ ?_; clear hK)
     refine WC.region rfl ?_
     refine ji rfl rfl (by omega) ?_
     refine jm rfl rfl ?_
     refine WL.nil ?_
     exact ⟨d + 1, (p1, p2), (by repeat (first | exact trivial | refine ⟨rfl, ?_⟩)), Imp.pick (by repeat constructor) (Imp.pick (by repeat constructor) (Imp.pick (by repeat constructor) (Imp.nil _))), ⟨by omega, hnx.symm, by show p1 ≤ d + 1; omega, hp2⟩, by omega⟩
   | false =>
     rw [hdd] at gD hnx
     simp only [Bool.not_false, Bool.true_and] at hnx
     by_cases hbz : cntN busy d = 0
     · rw [decide_eq_false (fun h => h hbz)] at hcc
       rw [decide_eq_true hbz, Bool.true_and] at hnx
       by_cases hun : un < p2
       · rw [decide_eq_true hun] at hnx
         have hz : ((d + 1 : Nat) : Int) - 1 = (d : Int) := by omega
         refine uS rfl fun K hK => ?_
         refine jt rfl rfl (by omega) ?_
         refine wN hK ?_; clear hK
         refine WC.seq fun K hK => ?_
         refine uT rfl rfl ?_
         refine WC.skip ?_
         (refine hK _ _ ?_; clear hK)
         refine WC.seq fun K hK => ?_
         refine WC.block ?_
         refine uS rfl fun K hK => ?_
         iterate 2 refine jm rfl rfl ?_
         refine wN hK ?_; clear hK
         refine uS rfl fun K hK => ?_
         refine wG rfl rfl (g_loadA rfl (.mk rfl rfl) rfl rfl (rdr_pt (.tail _ (.head _)) (fun j u h => by simpa using h))) ?_
         refine jm rfl rfl ?_
         (refine WL.want rfl (WL1.callN rfl rfl rfl (.cons (.mk (v := .agg _) rfl rfl) (.cons (.mk (v := .int _ _) rfl rfl) .nil)) (fun w hw => hud w hw.1) ?_); rintro _ _ ⟨F, fc, rfl, rfl⟩)
         refine jn rfl rfl rfl ?_
         refine jm rfl rfl ?_
         refine wN hK ?_; clear hK
         refine uS rfl fun K hK => ?_
         iterate 2 refine jm rfl rfl ?_
         refine wG rfl rfl (g_indexAddr (sz := 1) rfl (.mk rfl rfl) (.mk rfl rfl) rfl rfl rfl (by omega) (fun _ _ => sl_some hD (by omega))) ?_
         refine jl rfl rfl rfl (rd_sl hD gD) ?_
         iterate 2 refine jm rfl rfl ?_
         iterate 2 refine qm rfl rfl ?_
         refine qW rfl (WL1.callP rfl rfl rfl (.cons (.mk (v := .slice _ _ _) rfl rfl) (.cons (.mk (v := .int _ _) rfl rfl) .nil)) (fun w hw => hcc w _ _ (Sl.of_vec hw (by repeat constructor))) ?_)
         refine qm rfl rfl ?_
         iterate 2 refine jm rfl rfl ?_
         iterate 2 refine qm rfl rfl ?_
         refine qt rfl rfl (by omega) ?_
         refine jm rfl rfl ?_
         refine wN hK ?_; clear hK
         refine uT rfl rfl ?_
         refine WC.region rfl ?_
         iterate 4 refine jm rfl rfl ?_
         refine wN hK ?_; clear hK
         refine WC.region rfl ?_
         refine ji rfl rfl (by omega) ?_
         refine jm rfl rfl ?_
         refine WL.nil ?_
         exact ⟨d + 1, (d + 1, un), ⟨rfl, rfl, by show _ = iv (((d + 1 : Nat) : Int) - 1); rw [hz]; rfl, rfl, rfl, rfl, rfl, rfl, trivial⟩, Imp.pick (by repeat constructor) (Imp.pick (by repeat constructor) (Imp.pick (by repeat constructor) (Imp.nil _))), ⟨by omega, hnx.symm, by show d + 1 ≤ d + 1; omega, by show un ≤ s; omega⟩, by omega⟩
       · rw [decide_eq_false hun] at hnx
         refine uS rfl fun K hK => ?_
         refine jt rfl rfl (by omega) ?_
         refine wN hK ?_; clear hK
         refine WC.seq fun K hK => ?_
         refine uT rfl rfl ?_
         refine WC.skip ?_
         (refine hK _ _ ?_; clear hK)
         refine WC.seq fun K hK => ?_
         refine WC.block ?_
         refine uS rfl fun K hK => ?_
         iterate 2 refine jm rfl rfl ?_
         refine wN hK ?_; clear hK
         refine uS rfl fun K hK => ?_
         refine wG rfl rfl (g_loadA rfl (.mk rfl rfl) rfl rfl (rdr_pt (.tail _ (.head _)) (fun j u h => by simpa using h))) ?_
         refine jm rfl rfl ?_
         (refine WL.want rfl (WL1.callN rfl rfl rfl (.cons (.mk (v := .agg _) rfl rfl) (.cons (.mk (v := .int _ _) rfl rfl) .nil)) (fun w hw => hud w hw.1) ?_); rintro _ _ ⟨F, fc, rfl, rfl⟩)
         refine jn rfl rfl rfl ?_
         refine jm rfl rfl ?_
         refine wN hK ?_; clear hK
         refine uS rfl fun K hK => ?_
         iterate 2 refine jm rfl rfl ?_
         refine wG rfl rfl (g_indexAddr (sz := 1) rfl (.mk rfl rfl) (.mk rfl rfl) rfl rfl rfl (by omega) (fun _ _ => sl_some hD (by omega))) ?_
         refine jl rfl rfl rfl (rd_sl hD gD) ?_
         iterate 2 refine jm rfl rfl ?_
         iterate 2 refine qm rfl rfl ?_
         refine qW rfl (WL1.callP rfl rfl rfl (.cons (.mk (v := .slice _ _ _) rfl rfl) (.cons (.mk (v := .int _ _) rfl rfl) .nil)) (fun w hw => hcc w _ _ (Sl.of_vec hw (by repeat constructor))) ?_)
         refine qm rfl rfl ?_
         iterate 2 refine jm rfl rfl ?_
         iterate 2 refine qm rfl rfl ?_
         refine qf rfl rfl (by omega) ?_
         refine jm rfl rfl ?_
         refine wN hK ?_; clear hK
         refine uF rfl rfl ?_
         refine WC.skip ?_
         (refine hK _ _ ?_; clear hK)
         refine WC.region rfl ?_
         refine ji rfl rfl (by omega) ?_
         refine jm rfl rfl ?_
         refine WL.nil ?_
         exact ⟨d + 1, (p1, p2), (by repeat (first | exact trivial | refine ⟨rfl, ?_⟩)), Imp.pick (by repeat constructor) (Imp.pick (by repeat constructor) (Imp.pick (by repeat constructor) (Imp.nil _))), ⟨by omega, hnx.symm, by show p1 ≤ d + 1; omega, hp2⟩, by omega⟩
     · rw [decide_eq_true (show cntN busy d ≠ 0 from hbz)] at hcc
       rw [decide_eq_false hbz, Bool.false_and] at hnx
       refine uS rfl fun K hK => ?_
       refine jt rfl rfl (by omega) ?_
       refine wN hK ?_; clear hK
       refine WC.seq fun K hK => ?_
       refine uT rfl rfl ?_
       refine WC.skip ?_
       (refine hK _ _ ?_; clear hK)
       refine WC.seq fun K hK => ?_
       refine WC.block ?_
       refine uS rfl fun K hK => ?_
       iterate 2 refine jm rfl rfl ?_
       refine wN hK ?_; clear hK
       refine uS rfl fun K hK => ?_
       refine wG rfl rfl (g_loadA rfl (.mk rfl rfl) rfl rfl (rdr_pt (.tail _ (.head _)) (fun j u h => by simpa using h))) ?_
       refine jm rfl rfl ?_
       (refine WL.want rfl (WL1.callN rfl rfl rfl (.cons (.mk (v := .agg _) rfl rfl) (.cons (.mk (v := .int _ _) rfl rfl) .nil)) (fun w hw => hud w hw.1) ?_); rintro _ _ ⟨F, fc, rfl, rfl⟩)
       refine jn rfl rfl rfl ?_
       refine jm rfl rfl ?_
       refine wN hK ?_; clear hK
       refine uS rfl fun K hK => ?_
       iterate 2 refine jm rfl rfl ?_
       refine wG rfl rfl (g_indexAddr (sz := 1) rfl (.mk rfl rfl) (.mk rfl rfl) rfl rfl rfl (by omega) (fun _ _ => sl_some hD (by omega))) ?_
       refine jl rfl rfl rfl (rd_sl hD gD) ?_
       iterate 2 refine jm rfl rfl ?_
       iterate 2 refine qm rfl rfl ?_
       refine qW rfl (WL1.callP rfl rfl rfl (.cons (.mk (v := .slice _ _ _) rfl rfl) (.cons (.mk (v := .int _ _) rfl rfl) .nil)) (fun w hw => hcc w _ _ (Sl.of_vec hw (by repeat constructor))) ?_)
       refine qm rfl rfl ?_
       iterate 2 refine jm rfl rfl ?_
       iterate 3 refine ut rfl rfl ?_
       refine jm rfl rfl ?_
       refine wN hK ?_; clear hK
       refine uF rfl rfl ?_
       refine WC.skip ?_
       (refine hK _ _ ?_; clear hK)
       refine WC.region rfl ?_
       refine ji rfl rfl (by omega) ?_
       refine jm rfl rfl ?_
       refine WL.nil ?_
       exact ⟨d + 1, (p1, p2), (by repeat (first | exact trivial | refine ⟨rfl, ?_⟩)), Imp.pick (by repeat constructor) (Imp.pick (by repeat constructor) (Imp.pick (by repeat constructor) (Imp.nil _))), ⟨by omega, hnx.symm, by show p1 ≤ d + 1; omega, hp2⟩, by omega⟩
 obtain rfl : d = v := by omega
 rw [← hp] at hbd
 have hz : ((p1 : Int) - 1) = (bd : Int) := by
   have : p1 = bd + 1 := hbd
   omega
 show WC _ _ _ _ _ (sets U [(56, iv d), (55, iv d), (13, iv ((p1 : Int) - 1)), (14, iv p2), (12, .slice B k bc), (3, .slice Dd d dc), (10, cellPtr (some ⟨b10, 0, none⟩) 0), (8, cellPtr (some ⟨b8, 0, none⟩) 0)]) _
 rw [hz]
 have hub := fun w' hb => hus w' hb bd hbv
 have hul := hu12 bd hbv
 have hil := isort_len (usL ms bd)
 have hble := blF_le (isort (usL ms bd)) tr
 have hb0 : blF (isort (usL ms bd)) tr 0 = tr := rfl
 have hbs : ∀ i, blF (isort (usL ms bd)) tr (i + 1) = cond (Nat.beq (nth (isort (usL ms bd)) i) (blF (isort (usL ms bd)) tr i)) (blF (isort (usL ms bd)) tr i + 1) (blF (isort (usL ms bd)) tr i) := fun i => rfl
 generalize isort (usL ms bd) = us at *
 generalize (usL ms bd).length = un at *
 generalize hbf : blF us tr = bf at *
 clear hp hbd hus hck hgr hdk hcn
 refine uS rfl fun K hK => ?_
 refine jf rfl rfl (by omega) ?_
 refine wN hK ?_; clear hK
 refine WC.seq fun K hK => ?_
 refine uF rfl rfl ?_
 refine WC.exit ?_
 (clear hK; refine hK _ _ ?_; clear hK)
 refine WC.seq fun K hK => ?_
 refine uS rfl fun K hK => ?_
 refine jm rfl rfl ?_
 refine jf rfl rfl (by omega) ?_
 refine wN hK ?_; clear hK
 refine uF rfl rfl ?_
 refine WC.skip ?_
 (refine hK _ _ ?_; clear hK)
 refine uS rfl fun K hK => ?_
 refine ja 5 rfl rfl rfl rfl ?_
 refine jl rfl rfl rfl (rd_pt (.tail _ (.head _)) rfl) ?_
 refine jm rfl rfl ?_
 refine wN hK ?_; clear hK
 refine WC.seq fun K hK => ?_
 refine uS rfl fun K hK => ?_
 refine wG rfl rfl (g_loadA rfl (.mk rfl rfl) rfl rfl (rdr_pt (.tail _ (.head _)) (fun j u h => by simpa using h))) ?_
 refine jm rfl rfl ?_
 (refine WL.want rfl (WL1.callN rfl rfl rfl (.cons (.mk (v := .agg _) rfl rfl) (.cons (.mk (v := .int _ _) rfl rfl) .nil)) (fun w hw => hub w hw.1) ?_); rintro _ _ ⟨F, fc, rfl, rfl⟩)
 refine jn rfl rfl rfl ?_
 refine jm rfl rfl ?_
 refine wN hK ?_; clear hK
 refine WC.block ?_
 refine WC.loopF (fun i : Nat => [(91, iv i), (90, iv un), (89, .slice F un fc), (17, iv (bf i)), (13, iv bd), (8, cellPtr (some ⟨b8, 0, none⟩) 0)]) (fun _ => [vec F un fc 3 1 (ldv us), pt b8 PT [iv 0, iv 0]]) (fun i => i ≤ un) (fun i => un - i) 0 ⟨rfl, rfl, rfl, by rw [hb0]; rfl, rfl, rfl, trivial⟩ (Imp.pick (by repeat constructor) (Imp.pick (by repeat constructor) (Imp.nil _))) (by omega) ?_
 intro i U2 hi
 have hbi := hble i
 by_cases hlt2 : i < un
 · have gv := ldv_get (ld := us) (k := i) (by omega)
   have hnx := hbs i
   rw [nbeq_iff] at hnx
   generalize nth us i = x at *
   by_cases he : x = bf i
   · rw [decide_eq_true he, cond_true] at hnx
     refine uS rfl fun K hK => ?_
     refine jt rfl rfl (by omega) ?_
     refine wN hK ?_; clear hK
     refine WC.seq fun K hK => ?_
     refine uT rfl rfl ?_
     refine WC.skip ?_
     (refine hK _ _ ?_; clear hK)
     refine WC.seq fun K hK => ?_
     refine WC.block ?_
     refine uS rfl fun K hK => ?_
     refine wG rfl rfl (g_indexAddr (sz := 1) rfl (.mk rfl rfl) (.mk rfl rfl) rfl rfl rfl (by omega) (fun w hw => vec_some hw (.head _) (by omega))) ?_
     refine jl rfl rfl rfl (rd_vec (by repeat constructor) gv) ?_
     refine jm rfl rfl ?_
     refine wN hK ?_; clear hK
     refine uS rfl fun K hK => ?_
     iterate 2 refine jm rfl rfl ?_
     refine jt rfl rfl (by omega) ?_
     refine wN hK ?_; clear hK
     refine uT rfl rfl ?_
     refine WC.region rfl ?_
     refine jm rfl rfl ?_
     refine ji rfl rfl (by omega) ?_
     refine jm rfl rfl ?_
     refine wN hK ?_; clear hK
     refine WC.region rfl ?_
     refine ji rfl rfl (by omega) ?_
     refine jm rfl rfl ?_
     refine WL.nil ?_
     exact ⟨i + 1, by rw [hnx]; exact (by repeat (first | exact trivial | refine ⟨rfl, ?_⟩)), Imp.pick (by repeat constructor) (Imp.pick (by repeat constructor) (Imp.nil _)), by omega, by omega⟩
   · rw [decide_eq_false he, cond_false] at hnx
     refine uS rfl fun K hK => ?_
     refine jt rfl rfl (by omega) ?_
     refine wN hK ?_; clear hK
     refine WC.seq fun K hK => ?_
     refine uT rfl rfl ?_
     refine WC.skip ?_
     (refine hK _ _ ?_; clear hK)
     refine WC.seq fun K hK => ?_
     refine WC.block ?_
     refine uS rfl fun K hK => ?_
     refine wG rfl rfl (g_indexAddr (sz := 1) rfl (.mk rfl rfl) (.mk rfl rfl) rfl rfl rfl (by omega) (fun w hw => vec_some hw (.head _) (by omega))) ?_
     refine jl rfl rfl rfl (rd_vec (by repeat constructor) gv) ?_
     refine jm rfl rfl ?_
     refine wN hK ?_; clear hK
     refine uS rfl fun K hK => ?_
     iterate 2 refine jm rfl rfl ?_
     refine jf rfl rfl (by omega) ?_
     refine wN hK ?_; clear hK
     refine uF rfl rfl ?_
     refine WC.skip ?_
     (refine hK _ _ ?_; clear hK)
     refine WC.region rfl ?_
     refine ji rfl rfl (by omega) ?_
     refine jm rfl rfl ?_
     refine WL.nil ?_
     exact ⟨i + 1, by rw [hnx]; exact (by repeat (first | exact trivial | refine ⟨rfl, ?_⟩)), Imp.pick (by repeat constructor) (Imp.pick (by repeat constructor) (Imp.nil _)), by omega, by omega⟩
 · obtain rfl : i = un := by omega
   refine uS rfl fun K hK => ?_
   refine jf rfl rfl (by omega) ?_
   refine wN hK ?_; clear hK
   refine WC.seq fun K hK => ?_
   refine uF rfl rfl ?_
   refine WC.exit ?_
   (clear hK; refine hK _ _ ?_; clear hK)
   refine uS rfl fun K hK => ?_
   iterate 2 refine jm rfl rfl ?_
   refine wG rfl rfl (g_build (cs := [_, _]) rfl rfl rfl rfl (.cons (.mk (v := .int _ _) rfl rfl) (.cons (.mk (v := .int _ _) rfl rfl) .nil)) rfl rfl rfl) ?_
   refine WL.want rfl (WL1.storeAll rfl rfl (.mk rfl rfl) (.mk rfl rfl) rfl (all1 rfl) (by first | rfl | (simp [Blk.len]; done)) (.tail (.head)) ?_)
   refine jm rfl rfl ?_
   refine wN hK ?_; clear hK
   refine WC.ret ?_
   exact ⟨_, .cell rfl rfl rfl rfl (by repeat constructor) (.tmp rfl rfl .nil), fun w' hw' => ⟨rfl, hw'.1⟩⟩
end Go.Proofs.YtdcijljfgcjelaaGreat
