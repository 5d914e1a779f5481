/- Texts joined: Rb20, Rb21, Rb22, Rb25, Rb26, Rb24, Rb23. The parts say what each of them proves. No condition. -/
import Derived.Test.YtdcijljfgcjelaaGreatJh6
namespace Go.Proofs.YtdcijljfgcjelaaGreat
set_option maxRecDepth 20000
open Go.RowKit
attribute [local irreducible] Calls
def ddL (v d : Nat) : List Bool := (List.replicate v false).set d true
structure FinOk (v k r lam t s : Nat) (gs : List (List Nat)) (d : Nat) (ts : List Tk) : Prop where
 rb : RbOk v k r t s gs d (ddL v d) ts
 fl : ∀ i, i < ts.length → (nth ts i).f.length = k - 3
 fk : ∀ i, i < ts.length → ∀ j, j < k - 3 → nth (nth ts i).f j < k
 nd : ∀ i, i < ts.length → (nth ts i).m.d ≠ d
 cnt : ts.length = t * r
 od : odL gs gs.length k r t (ts.map Tk.m) d = []
 ld : ∀ x, x < v → ldA gs gs.length k x ts ≤ shN k lam t
 l0 : ldA gs gs.length k d ts = 0
set_option maxHeartbeats 32000000 in
theorem rp_core {dk wd tl D v k r lam t : Nat} {gs : List (List Nat)} {ts : List Tk} (w : World) (hDb : D < 256)
   (hch : ∀ w, Calls Tryz.prog 18 #[.int .u8 dk, .int .u8 wd, .int .u8 tl, .int .u8 39] w fun e w' => ∃ u M, e = .returned u ∧ H w M w' ∧ ∃ A c rs, ils rs = gs ∧ u = .tuple #[layV v A c rs t 39, .bool true] ∧ M = dsgA A c rs)
   (hL : Lay v k r lam gs t 39) (hkv : k ≠ v) (h40 : gs.length ≤ 40) (hk12 : k ≤ 12) (hlam : lam ≤ 100000) (hF : FinOk v k r lam t 39 gs (D % v) ts) :
   Calls Tryz.prog 4 #[.int .u8 dk, .int .u8 wd, .int .u8 tl, .int .u8 D] w fun en w' => en = .returned (.bool true) ∧ Below w.heap.size w w' := by
 refine calls_wc (args := [.int .u8 dk, .int .u8 wd, .int .u8 tl, .int .u8 D]) [8] [] Tryz.func4 rfl Tryz.ntmps4 rfl rfl rfl rfl (H.refl _) ?_
 refine uS rfl fun K hK => ?_
 refine jm rfl rfl ?_
 refine wN hK ?_; clear hK
 refine WC.seq fun K hK => ?_
 refine uS rfl fun K hK => ?_
 refine WL.want rfl (WL1.callP rfl rfl rfl .nil (fun w hw => awake_top w) ?_)
 refine jm rfl rfl ?_
 refine wN hK ?_; clear hK
 refine uF rfl rfl ?_
 refine WC.skip ?_
 (refine hK _ _ ?_; clear hK)
 refine uS rfl fun K hK => ?_
 iterate 3 refine jm rfl rfl ?_
 (refine WL.want rfl (WL1.callN rfl rfl rfl (.cons (.mk (v := .int _ _) rfl rfl) (.cons (.mk (v := .int _ _) rfl rfl) (.cons (.mk (v := .int _ _) rfl rfl) (.cons (.mk (v := .int _ _) rfl rfl) .nil)))) (fun w hw => hch w) ?_); rintro _ _ ⟨A, c, rs, hgs, rfl, rfl⟩)
 iterate 3 refine jm rfl rfl ?_
 refine WL.want rfl (WL1.alloc rfl rfl rfl rfl (fun b9 => ?_))
 refine WL.want rfl (WL1.storeAll rfl rfl (.mk rfl rfl) (.mk rfl rfl) rfl (all1 rfl) (by first | rfl | (simp [Blk.len]; done)) (.head) ?_)
 refine jm rfl rfl ?_
 refine wN hK ?_; clear hK
 refine WC.seq fun K hK => ?_
 subst hgs
 have hgl : (ils rs).length = rs.length := List.length_map _
 rw [hgl] at h40
 have hv60 := hL.d.v60
 have hv2 := hL.d.v2
 have hcap := hL.cap
 have hk4 := hL.k4
 obtain ⟨A0, c0, e0, hk0, hn1⟩ := row0 hL.d
 have g0 := irowv_get (rs := rs) (k := 0) (by omega)
 rw [e0] at g0
 unfold IRow.v at g0
 rw [hk0] at g0
 have hrem : (D : Int).tmod (v : Int) = ((D % v : Nat) : Int) := by rw [Int.tmod_eq_emod_of_nonneg (by omega)]; rfl
 have hdv : D % v < v := Nat.mod_lt _ (by omega)
 have hcv : IntKind.i64.wrap (D : Int) = (D : Int) := IntWalk.i64_in _ (by omega)
 have hrb := hF.rb
 have hmo := hrb.mok
 have hod := hF.od
 have hcnt := hF.cnt
 have hld := hF.ld
 have hl0 := hF.l0
 have hfl := hF.fl
 have hfk := hF.fk
 have hnd := hF.nd
 have honr := hrb.onr
 have hong := hrb.ong
 have hr1 := hrb.r1
 have hlen := hrb.len
 rw [hgl] at hmo hod hld hl0 honr hong
 generalize hd : D % v = d at *
 have hRv := fun w' h => rvalid_d (A := A) (c := c) w' hL h
 have hRb := fun w' Dd dc h hD => rebuild_n (A := A) (c := c) (Dd := Dd) (dc := dc) w' hL h (by omega) hk12 hrb hD
 have hCk := fun w' h => check_d (A := A) (c := c) w' hL.d hL.b h
 have hmade := made_bo v
 have hst : ∀ i, i = d * 1 → (bls (List.replicate v false)).set i (.bool true) = bls (ddL v d) := fun i hi => by rw [hi, Nat.mul_one]; unfold bls ddL; rw [List.map_set]
 have hbl : (bls (List.replicate v false)).length = v := by rw [bls_len, List.length_replicate]
 have q1 : IntKind.i64.wrap ((t : Int) * (r : Int)) = ((t * r : Nat) : Int) := by
   rw [← Int.natCast_mul]
   generalize t * r = z at hcap ⊢
   exact IntWalk.i64_in _ (by omega)
 have gD : ∀ j u, [iv v, .slice A rs.length c][j]? = some u → [iv v, .slice A rs.length c, iv t, iv 39][0 + (0 + 0 + j)]? = some u := fun j u h => pre_get (es := [iv t, iv 39]) (by omega) h
 refine uS rfl fun K hK => ?_
 iterate 2 refine jm rfl rfl ?_
 refine wN hK ?_; clear hK
 refine uF rfl rfl ?_
 refine WC.skip ?_
 (refine hK _ _ ?_; clear hK)
 refine WC.seq fun K hK => ?_
 refine uS rfl fun K hK => ?_
 refine wG rfl rfl (g_loadA rfl (.mk rfl rfl) rfl rfl (rdr_pt (.head _) (fun j u h => by simpa using h))) ?_
 refine WL.want rfl (WL1.callP rfl rfl rfl (.cons (.mk (v := .agg _) rfl rfl) .nil) (fun w hw => hRv w (IMat.of_rows hw (by repeat constructor) (by repeat constructor) rfl)) ?_)
 refine jm rfl rfl ?_
 refine wN hK ?_; clear hK
 refine uF rfl rfl ?_
 refine WC.skip ?_
 (refine hK _ _ ?_; clear hK)
 refine WC.seq fun K hK => ?_
 refine WC.seq fun K hK => ?_
 refine WC.quiet rfl (by kernel_rfl) (by decide +kernel) ?_
 refine ya 0 rfl rfl rfl rfl ?_
 refine ya 1 rfl rfl rfl rfl ?_
 refine yl rfl rfl rfl (rd_pt (.head _) rfl) ?_
 refine WQ.want rfl (WQ1.give rfl (g_indexAddr (sz := 1) rfl (.mk rfl rfl) (.mk rfl rfl) rfl rfl (show _ = ((0 : Nat) : Int) from rfl) (by omega) (fun w hw => vec_some hw (.tail _ (.head _)) (by omega))) ?_)
 refine yl rfl rfl rfl (rd_vec (by repeat constructor) g0) ?_
 refine yn rfl rfl rfl ?_
 iterate 2 refine ya 0 rfl rfl rfl rfl ?_
 refine yl rfl rfl rfl (rd_pt (.head _) rfl) ?_
 refine yf rfl rfl (by omega) ?_
 refine ym rfl rfl ?_
 refine Za 0 rfl rfl rfl rfl ?_
 refine Za 1 rfl rfl rfl rfl ?_
 refine Zl rfl rfl rfl (rd_pt (.head _) rfl) ?_
 refine Zn rfl rfl rfl ?_
 refine Zf rfl rfl (by omega) ?_
 refine ym rfl rfl ?_
 refine WQ.nil ?_
 (refine hK _ _ ?_; clear hK)
 refine uF rfl rfl ?_
 refine WC.skip ?_
 (refine hK _ _ ?_; clear hK)
 refine uS rfl fun K hK => ?_
 iterate 2 refine ja 0 rfl rfl rfl rfl ?_
 refine jl rfl rfl rfl (rd_pt (.head _) rfl) ?_
 refine jm rfl rfl ?_
 refine wN hK ?_; clear hK
 refine uS rfl fun K hK => ?_
 refine jm rfl rfl ?_
 refine wG rfl rfl (g_conv rfl rfl rfl (.mk rfl rfl) hcv) ?_
 refine jm rfl rfl ?_
 refine wG rfl rfl (g_rem rfl (.mk rfl rfl) (.mk rfl rfl) (by omega) hrem) ?_
 refine jm rfl rfl ?_
 refine wN hK ?_; clear hK
 refine uS rfl fun K hK => ?_
 refine jm rfl rfl ?_
 refine WL.want rfl (WL1.make elBo rfl rfl (.mk rfl rfl) (.mk rfl rfl) rfl rfl (by omega) (by unfold maxLen; omega) (fun b67 => ?_))
 refine jm rfl rfl ?_
 refine wN hK ?_; clear hK
 rw [hmade]
 refine uS rfl fun K hK => ?_
 iterate 2 refine jm rfl rfl ?_
 refine jx 1 rfl rfl rfl rfl rfl (by omega) rfl ?_
 refine WL.want rfl (WL1.storeV1 rfl rfl (.mk rfl rfl) (.mk (v := .bool _) rfl rfl) rfl rfl (by first | omega | (simp; done) | (simp; omega)) (.head) ?_)
 refine wN hK ?_; clear hK
 rw [hst _ rfl]
 refine uS rfl fun K hK => ?_
 refine wG rfl rfl (g_loadA rfl (.mk rfl rfl) rfl rfl (rdr_pt (.tail _ (.head _)) (fun j u h => by simpa using h))) ?_
 iterate 2 refine jm rfl rfl ?_
 (refine WL.want rfl (WL1.callN rfl rfl rfl (.cons (.mk (v := .agg _) rfl rfl) (.cons (.mk (v := .slice _ _ _) rfl rfl) (.cons (.mk (v := .int _ _) rfl rfl) (.cons (.mk (v := .slice _ _ _) rfl rfl) .nil)))) (fun w hw => hRb w _ _ (IMat.of_rows hw (by repeat constructor) (by repeat constructor) rfl) (Sl.of_vec hw (by repeat constructor))) ?_); rintro _ _ ⟨T, tc, qs, hqs, rfl, rfl⟩)
 iterate 5 refine jm rfl rfl ?_
 refine wN hK ?_; clear hK
 refine uS rfl fun K hK => ?_
 refine ja 0 rfl rfl rfl rfl ?_
 refine wG rfl rfl (g_loadA rfl (.mk rfl rfl) rfl rfl (rdr_pt (cs := [iv v, .slice A rs.length c]) (by repeat constructor) gD)) ?_
 refine WL.want rfl (WL1.callP rfl rfl rfl (.cons (.mk (v := .agg _) rfl rfl) .nil) (fun w hw => hCk w (IMat.of_rows hw (by repeat constructor) (by repeat constructor) rfl)) ?_)
 iterate 7 refine jm rfl rfl ?_
 refine wN hK ?_; clear hK
 refine WC.seq fun K hK => ?_
 refine uS rfl fun K hK => ?_
 refine jm rfl rfl ?_
 refine jf rfl rfl (by omega) ?_
 refine jm rfl rfl ?_
 refine qm rfl rfl ?_
 refine qf rfl rfl (by omega) ?_
 iterate 2 refine jm rfl rfl ?_
 refine qm rfl rfl ?_
 refine qn rfl rfl rfl ?_
 refine qa 2 rfl rfl rfl rfl ?_
 refine ql rfl rfl rfl (rd_pt (.tail _ (.tail _ (.tail _ (.head _)))) rfl) ?_
 refine qm rfl rfl ?_
 refine qW rfl (WL1.give rfl (g_mul rfl (.mk rfl rfl) (.mk rfl rfl) q1) ?_)
 refine qf rfl rfl (by omega) ?_
 refine jm rfl rfl ?_
 refine wN hK ?_; clear hK
 refine uF rfl rfl ?_
 refine WC.skip ?_
 (refine hK _ _ ?_; clear hK)
 refine uS rfl fun K hK => ?_
 refine jm rfl rfl ?_
 refine wN hK ?_; clear hK
 refine WC.seq fun K hK => ?_
 refine uS rfl fun K hK => ?_
 refine jm rfl rfl ?_
 refine jn rfl rfl rfl ?_
 refine jm rfl rfl ?_
 refine wN hK ?_; clear hK
 refine WC.block ?_
 have hql : qs.length = ts.length := by have := congrArg List.length hqs; rwa [List.length_map] at this
 have hqn : ∀ i, i < ts.length → (nth qs i).abs = nth ts i := fun i hi => by rw [← hqs, nth_map _ (by omega)]
 have hFl : (ts.map Tk.m).length = ts.length := List.length_map _
 have hFn : ∀ i, i < ts.length → nth (ts.map Tk.m) i = (nth ts i).m := fun i hi => nth_map _ hi
 have hDa := fun w' h => ldata_e (A := A) (c := c) w' hL h
 generalize hF0 : ts.map Tk.m = F at *
 generalize hNN : ts.length = N at *
 have hAp := fun w' M mc (i : Nat) (hi : i < N) (h0 : i = 0 → M = none ∧ mc = 0) h hM => apply_m (A := A) (c := c) (M := M) (mc := mc) (m := i) (ms := F.take i) (mv := (nth ts i).m) w' hL h hM (by rw [List.length_take]; omega) h0 (by omega) hk12 (hmo.take i) (by rw [← hFn i hi, ← take_snoc (by omega)]; exact hmo.take (i + 1))
 refine WC.nilvec MVT 4 ?_
 refine WC.loopF2 (fun (i : Nat) (M : Option Addr × Nat) => [(102, iv i), (101, iv N), (100, .slice T N tc), (14, .slice T N tc), (19, .slice M.1 i M.2), (12, iv d), (11, iv v), (9, cellPtr (some ⟨b9, 0, none⟩) 0)]) (fun i M => [vec M.1 i M.2 MVT 4 (mvs (F.take i)), rowsI (qs.map TkR.f), vec T N tc TKT 5 (tkcs qs), pt b9 LT [iv v, .slice A rs.length c, iv t, iv 39], vec A rs.length c 29 1 (rs.map IRow.v), rowsI rs]) (fun i M => i ≤ N ∧ (i = 0 → M.1 = none ∧ M.2 = 0)) (fun i _ => N - i) 0 (none, 0) (by repeat (first | exact trivial | refine ⟨rfl, ?_⟩)) (Imp.pick (A := vec none 0 0 MVT 4 []) (by repeat constructor) (Imp.pick (by repeat constructor) (Imp.pick (by repeat constructor) (Imp.pick (by repeat constructor) (Imp.pick (by repeat constructor) (Imp.pick (by repeat constructor) (Imp.nil _))))))) ⟨by omega, fun _ => ⟨rfl, rfl⟩⟩ ?_
 rintro i ⟨M, mc⟩ U ⟨hi, h00⟩
 by_cases hlt : i < N
 · have hqi := hqn i hlt
   have gT := tkcs_row (l := qs) (k := i) (by omega)
   have hflx := hfl i hlt
   have hndx := hnd i hlt
   have hapx := fun w' h hM => hAp w' M mc i hlt h00 h hM
   have hsn : F.take (i + 1) = F.take i ++ [(nth ts i).m] := by rw [← hFn i hlt]; exact take_snoc (by omega)
   rw [← hsn] at hapx
   clear hqn hFn hAp hRv hRb hCk hrb hF
   rw [← hqi] at hflx hndx hapx
   generalize hq : nth qs i = q at *
   obtain ⟨⟨xg, xp, xd, xb⟩, ⟨RA, rc, xf⟩⟩ := q
   replace hflx : xf.length = k - 3 := hflx
   replace hndx : xd ≠ d := hndx
   replace gT : ∀ j u, [iv xg, iv xp, .slice RA xf.length rc, iv xd, iv xb][j]? = some u → (tkcs qs)[i * 5 + j]? = some u := gT
   replace hapx : ∀ w', IMat w' (.slice A rs.length c) rs → Sl w' 4 (.slice M i mc) i (mvs (F.take i)) → Calls Tryz.prog 23 #[layV v A c rs t 39, .slice M i mc, .agg #[iv xg, iv xp, iv xd, iv xb]] w' fun e w2 => ∃ u N, e = .returned u ∧ H w' N w2 ∧ ∃ F2 fc, u = .tuple #[.slice F2 (i + 1) fc, iv 0] ∧ N = [vec F2 (i + 1) fc MVT 4 (mvs (F.take (i + 1)))] := hapx
   have gP : ∀ j u, [iv xd, iv xb][j]? = some u → [iv xg, iv xp, .slice RA xf.length rc, iv xd, iv xb][0 + (0 + 3 + j)]? = some u := fun j u h => by rw [show 0 + (0 + 3 + j) = j + 3 from by omega]; exact h
   refine uS rfl fun K hK => ?_
   refine jt rfl rfl (by omega) ?_
   refine wN hK ?_; clear hK
   refine WC.seq fun K hK => ?_
   refine uT rfl rfl ?_
   refine WC.skip ?_
   (refine hK _ _ ?_; clear hK)
   refine WC.seq fun K hK => ?_
   refine WC.block ?_
   refine uS rfl fun K hK => ?_
   refine wG rfl rfl (g_indexAddr (sz := 5) rfl (.mk rfl rfl) (.mk rfl rfl) rfl rfl rfl (by omega) (fun w hw => vec_some hw (.tail _ (.tail _ (.head _))) (by omega))) ?_
   refine wG rfl rfl (g_loadA rfl (.mk rfl rfl) rfl rfl (rdr_vec (cs := [iv xg, iv xp, .slice RA xf.length rc, iv xd, iv xb]) (by repeat constructor) (by omega) gT)) ?_
   refine WL.want rfl (WL1.alloc rfl rfl rfl rfl (fun b21 => ?_))
   refine WL.want rfl (WL1.storeAll rfl rfl (.mk rfl rfl) (.mk rfl rfl) rfl (all1 rfl) (by first | rfl | (simp [Blk.len]; done)) (.head) ?_)
   refine wN hK ?_; clear hK
   refine WC.seq fun K hK => ?_
   refine WC.seq fun K hK => ?_
   refine WC.quiet rfl (by kernel_rfl) (by decide +kernel) ?_
   refine ya 2 rfl rfl rfl rfl ?_
   refine yl rfl rfl rfl (rd_pt (.head _) rfl) ?_
   refine yn rfl rfl rfl ?_
   refine WQ.want rfl (WQ1.give rfl (g_loadA rfl (.mk rfl rfl) rfl rfl (rdr_pt (.tail _ (.tail _ (.tail _ (.tail _ (.head _))))) (fun j u h => by simpa using h))) ?_)
   refine WQ.want rfl (WQ1.callP rfl rfl rfl (.cons (.mk (v := .agg _) rfl rfl) .nil) (fun w hw => hDa w (IMat.of_rows hw (by repeat constructor) (by repeat constructor) rfl)) ?_)
   refine yf rfl rfl (by omega) ?_
   refine WQ.nil ?_
   (refine hK _ _ ?_; clear hK)
   refine uF rfl rfl ?_
   refine WC.skip ?_
   (refine hK _ _ ?_; clear hK)
   refine uS rfl fun K hK => ?_
   refine jm rfl rfl ?_
   refine wN hK ?_; clear hK
   refine uS rfl fun K hK => ?_
   refine wG rfl rfl (g_loadA rfl (.mk rfl rfl) rfl rfl (rdr_pt (.tail _ (.tail _ (.tail _ (.tail _ (.head _))))) (fun j u h => by simpa using h))) ?_
   refine jm rfl rfl ?_
   refine ja 0 rfl rfl rfl rfl ?_
   refine jl rfl rfl rfl (rd_pt (.head _) rfl) ?_
   refine ja 1 rfl rfl rfl rfl ?_
   refine jl rfl rfl rfl (rd_pt (.head _) rfl) ?_
   refine ja 3 rfl rfl rfl rfl ?_
   refine wG rfl rfl (g_loadA rfl (.mk rfl rfl) rfl rfl (rdr_pt (cs := [iv xd, iv xb]) (by repeat constructor) gP)) ?_
   refine wG rfl rfl (g_buildS (us := [(0, [_]), (1, [_]), (2, [iv xd, iv xb])]) (cs := [iv xg, iv xp, iv xd, iv xb]) rfl rfl rfl rfl (.cons (.mk (v := .int _ _) rfl rfl) (.cons (.mk (v := .int _ _) rfl rfl) (.cons (.mk (v := .agg _) rfl rfl) .nil))) rfl (fun p hp => by simp only [List.mem_cons, List.not_mem_nil, or_false] at hp; rcases hp with rfl | rfl | rfl <;> exact ⟨_, _, rfl, rfl, Nat.le_of_ble_eq_true rfl⟩) rfl) ?_
   (refine WL.want rfl (WL1.callN rfl rfl rfl (.cons (.mk (v := .agg _) rfl rfl) (.cons (.mk (v := .slice _ _ _) rfl rfl) (.cons (.mk (v := .agg _) rfl rfl) .nil))) (fun w hw => hapx w (IMat.of_rows hw (by repeat constructor) (by repeat constructor) rfl) (Sl.of_vec hw (by repeat constructor))) ?_); rintro _ _ ⟨F2, f2, rfl, rfl⟩)
   iterate 5 refine jm rfl rfl ?_
   refine wN hK ?_; clear hK
   refine uS rfl fun K hK => ?_
   refine jm rfl rfl ?_
   refine jf rfl rfl (by omega) ?_
   refine jm rfl rfl ?_
   refine qa 3 rfl rfl rfl rfl ?_
   refine qa 0 rfl rfl rfl rfl ?_
   refine ql rfl rfl rfl (rd_pt (.tail _ (.head _)) rfl) ?_
   refine qm rfl rfl ?_
   refine qf rfl rfl (by omega) ?_
   refine jm rfl rfl ?_
   refine wN hK ?_; clear hK
   refine uF rfl rfl ?_
   refine WC.skip ?_
   (refine hK _ _ ?_; clear hK)
   refine WC.region rfl ?_
   refine ji rfl rfl (by omega) ?_
   refine jm rfl rfl ?_
   refine WL.nil ?_
   exact ⟨i + 1, (F2, f2), (by repeat (first | exact trivial | refine ⟨rfl, ?_⟩)), Imp.pick (by repeat constructor) (Imp.pick (by repeat constructor) (Imp.pick (by repeat constructor) (Imp.pick (by repeat constructor) (Imp.pick (by repeat constructor) (Imp.pick (by repeat constructor) (Imp.nil _)))))), ⟨by omega, fun h => by omega⟩, by omega⟩
 obtain rfl : i = N := by omega
 have htF : F.take i = F := List.take_of_length_le (by omega)
 rw [htF]
 clear hAp hRv hRb hCk
 have hqm : ∀ j, j < i → (nth qs j).m = nth F j := fun j hj => by
   have := congrArg Tk.m (hqn j hj)
   rw [hFn j hj]; exact this
 have hqf : ∀ j, j < i → (nth qs j).f.l = (nth ts j).f := fun j hj => congrArg Tk.f (hqn j hj)
 have hLd := fun w' x (hx : x < v) h hT hrow => load_e (A := A) (c := c) (x := x) (N := i) (tc := tc) (T := T) (qs := qs) w' hL h (by omega) hk12 hT hql (by omega) hrow (fun j hj => by rw [hqm j hj]; exact hmo.g j (by omega)) (fun j hj => by rw [hqm j hj]; exact hmo.p j (by omega)) (fun j hj q hq => by rw [hqf j hj] at hq ⊢; rw [hfl j hj] at hq; exact hfk j hj q hq) (fun j hj => by rw [hqf j hj, hfl j hj]; omega) hx
 rw [hqs] at hLd
 have hSh := fun w' h => share_e (A := A) (c := c) w' hL h hlam
 have hOd := fun w' h hM => sondisk_n (A := A) (c := c) (M := M) (mc := mc) (m := i) (ms := F) (d := d) w' hL h hM hFl (by omega) hk12 hmo hdv hr1 honr hong (by rw [hod]; intro j hj; simp at hj) (by rw [hod]; exact Nat.zero_lt_succ _)
 rw [hod] at hOd
 simp only [List.length_nil] at hOd
 have hVa := fun w' h hM => mvalid_e (A := A) (c := c) (M := M) (mc := mc) (m := i) (ms := F) w' hL h hM hFl (by omega) hk12 hmo
 generalize shN k lam t = sh at *
 refine uS rfl fun K hK => ?_
 refine jf rfl rfl (by omega) ?_
 refine wN hK ?_; clear hK
 refine WC.seq fun K hK => ?_
 refine uF rfl rfl ?_
 refine WC.exit ?_
 (clear hK; refine hK _ _ ?_; clear hK)
 refine WC.seq fun K hK => ?_
 refine uS rfl fun K hK => ?_
 iterate 2 refine jm rfl rfl ?_
 refine wN hK ?_; clear hK
 refine WC.block ?_
 refine WC.loopF (fun x : Nat => [(136, iv x), (135, iv v), (14, .slice T i tc), (19, .slice M i mc), (12, iv d), (9, cellPtr (some ⟨b9, 0, none⟩) 0)]) (fun _ => [vec M i mc MVT 4 (mvs F), rowsI (qs.map TkR.f), vec T i tc TKT 5 (tkcs qs), pt b9 LT [iv v, .slice A rs.length c, iv t, iv 39], vec A rs.length c 29 1 (rs.map IRow.v), rowsI rs]) (fun x => x ≤ v) (fun x => v - x) 0 (by repeat (first | exact trivial | refine ⟨rfl, ?_⟩)) (Imp.pick (by repeat constructor) (Imp.pick (by repeat constructor) (Imp.pick (by repeat constructor) (Imp.pick (by repeat constructor) (Imp.pick (by repeat constructor) (Imp.pick (by repeat constructor) (Imp.nil _))))))) (by omega) ?_
 intro x U2 hx
 by_cases hlx : x < v
 · have hLx := fun w' h hT hrow => hLd w' x hlx h hT hrow
   have hldx := hld x hlx
   by_cases hxd : x = d
   · rw [hxd, hl0] at hLx
     rw [← hxd] at hLx
     refine uS rfl fun K hK => ?_
     refine jt rfl rfl (by omega) ?_
     refine wN hK ?_; clear hK
     refine WC.seq fun K hK => ?_
     refine uT rfl rfl ?_
     refine WC.skip ?_
     (refine hK _ _ ?_; clear hK)
     refine WC.seq fun K hK => ?_
     refine WC.block ?_
     refine uS rfl fun K hK => ?_
     iterate 2 refine jm rfl rfl ?_
     refine wN hK ?_; clear hK
     refine uS rfl fun K hK => ?_
     refine wG rfl rfl (g_loadA rfl (.mk rfl rfl) rfl rfl (rdr_pt (.tail _ (.tail _ (.tail _ (.head _)))) (fun j u h => by simpa using h))) ?_
     iterate 2 refine jm rfl rfl ?_
     refine WL.want rfl (WL1.callP rfl rfl rfl (.cons (.mk (v := .agg _) rfl rfl) (.cons (.mk (v := .slice _ _ _) rfl rfl) (.cons (.mk (v := .slice _ _ _) rfl rfl) (.cons (.mk (v := .int _ _) rfl rfl) .nil)))) (fun w hw => hLx w (IMat.of_rows hw (by repeat constructor) (by repeat constructor) rfl) (Sl.of_vec hw (by repeat constructor)) (fun j hj => by rw [← nth_map TkR.f (by omega : j < qs.length)]; exact Sl.of_rowI hw (by repeat constructor) (by rw [List.length_map]; omega))) ?_)
     iterate 5 refine jm rfl rfl ?_
     refine wN hK ?_; clear hK
     refine uS rfl fun K hK => ?_
     refine jm rfl rfl ?_
     refine jf rfl rfl (by omega) ?_
     refine jm rfl rfl ?_
     refine qm rfl rfl ?_
     refine qW rfl (WL1.give rfl (g_loadA rfl (.mk rfl rfl) rfl rfl (rdr_pt (.tail _ (.tail _ (.tail _ (.head _)))) (fun j u h => by simpa using h))) ?_)
     refine qW rfl (WL1.callP rfl rfl rfl (.cons (.mk (v := .agg _) rfl rfl) .nil) (fun w hw => hSh w (IMat.of_rows hw (by repeat constructor) (by repeat constructor) rfl)) ?_)
     refine qf rfl rfl (by omega) ?_
     iterate 2 refine jm rfl rfl ?_
     iterate 2 refine qm rfl rfl ?_
     refine qt rfl rfl (by omega) ?_
     iterate 2 refine qm rfl rfl ?_
     refine qf rfl rfl (by omega) ?_
     refine qm rfl rfl ?_
     refine jm rfl rfl ?_
     refine wN hK ?_; clear hK
     refine uF rfl rfl ?_
     refine WC.skip ?_
     (refine hK _ _ ?_; clear hK)
     refine WC.region rfl ?_
     refine ji rfl rfl (by omega) ?_
     refine jm rfl rfl ?_
     refine WL.nil ?_
     exact ⟨x + 1, (by repeat (first | exact trivial | refine ⟨rfl, ?_⟩)), Imp.pick (by repeat constructor) (Imp.pick (by repeat constructor) (Imp.pick (by repeat constructor) (Imp.pick (by repeat constructor) (Imp.pick (by repeat constructor) (Imp.pick (by repeat constructor) (Imp.nil _)))))), by omega, by omega⟩
   · generalize ldA (ils rs) rs.length k x ts = lx at *
     refine uS rfl fun K hK => ?_
     refine jt rfl rfl (by omega) ?_
     refine wN hK ?_; clear hK
     refine WC.seq fun K hK => ?_
     refine uT rfl rfl ?_
     refine WC.skip ?_
     (refine hK _ _ ?_; clear hK)
     refine WC.seq fun K hK => ?_
     refine WC.block ?_
     refine uS rfl fun K hK => ?_
     iterate 2 refine jm rfl rfl ?_
     refine wN hK ?_; clear hK
     refine uS rfl fun K hK => ?_
     refine wG rfl rfl (g_loadA rfl (.mk rfl rfl) rfl rfl (rdr_pt (.tail _ (.tail _ (.tail _ (.head _)))) (fun j u h => by simpa using h))) ?_
     iterate 2 refine jm rfl rfl ?_
     refine WL.want rfl (WL1.callP rfl rfl rfl (.cons (.mk (v := .agg _) rfl rfl) (.cons (.mk (v := .slice _ _ _) rfl rfl) (.cons (.mk (v := .slice _ _ _) rfl rfl) (.cons (.mk (v := .int _ _) rfl rfl) .nil)))) (fun w hw => hLx w (IMat.of_rows hw (by repeat constructor) (by repeat constructor) rfl) (Sl.of_vec hw (by repeat constructor)) (fun j hj => by rw [← nth_map TkR.f (by omega : j < qs.length)]; exact Sl.of_rowI hw (by repeat constructor) (by rw [List.length_map]; omega))) ?_)
     iterate 5 refine jm rfl rfl ?_
     refine wN hK ?_; clear hK
     refine uS rfl fun K hK => ?_
     refine jm rfl rfl ?_
     refine jf rfl rfl (by omega) ?_
     refine jm rfl rfl ?_
     refine qm rfl rfl ?_
     refine qW rfl (WL1.give rfl (g_loadA rfl (.mk rfl rfl) rfl rfl (rdr_pt (.tail _ (.tail _ (.tail _ (.head _)))) (fun j u h => by simpa using h))) ?_)
     refine qW rfl (WL1.callP rfl rfl rfl (.cons (.mk (v := .agg _) rfl rfl) .nil) (fun w hw => hSh w (IMat.of_rows hw (by repeat constructor) (by repeat constructor) rfl)) ?_)
     refine qf rfl rfl (by omega) ?_
     iterate 2 refine jm rfl rfl ?_
     iterate 2 refine qm rfl rfl ?_
     refine qf rfl rfl (by omega) ?_
     refine qm rfl rfl ?_
     iterate 2 refine ut rfl rfl ?_
     refine qm rfl rfl ?_
     refine jm rfl rfl ?_
     refine wN hK ?_; clear hK
     refine uF rfl rfl ?_
     refine WC.skip ?_
     (refine hK _ _ ?_; clear hK)
     refine WC.region rfl ?_
     refine ji rfl rfl (by omega) ?_
     refine jm rfl rfl ?_
     refine WL.nil ?_
     exact ⟨x + 1, (by repeat (first | exact trivial | refine ⟨rfl, ?_⟩)), Imp.pick (by repeat constructor) (Imp.pick (by repeat constructor) (Imp.pick (by repeat constructor) (Imp.pick (by repeat constructor) (Imp.pick (by repeat constructor) (Imp.pick (by repeat constructor) (Imp.nil _)))))), by omega, by omega⟩
 · obtain rfl : x = v := by omega
   refine uS rfl fun K hK => ?_
   refine jf rfl rfl (by omega) ?_
   refine wN hK ?_; clear hK
   refine WC.seq fun K hK => ?_
   refine uF rfl rfl ?_
   refine WC.exit ?_
   (clear hK; refine hK _ _ ?_; clear hK)
   refine uS rfl fun K hK => ?_
   refine wG rfl rfl (g_loadA rfl (.mk rfl rfl) rfl rfl (rdr_pt (.tail _ (.tail _ (.tail _ (.head _)))) (fun j u h => by simpa using h))) ?_
   iterate 2 refine jm rfl rfl ?_
   (refine WL.want rfl (WL1.callN rfl rfl rfl (.cons (.mk (v := .agg _) rfl rfl) (.cons (.mk (v := .slice _ _ _) rfl rfl) (.cons (.mk (v := .int _ _) rfl rfl) .nil))) (fun w hw => hOd w (IMat.of_rows hw (by repeat constructor) (by repeat constructor) rfl) (Sl.of_vec hw (by repeat constructor))) ?_); rintro _ _ ⟨Fo, fo, rfl, rfl⟩)
   iterate 5 refine jm rfl rfl ?_
   refine wN hK ?_; clear hK
   refine uS rfl fun K hK => ?_
   refine jm rfl rfl ?_
   refine jt rfl rfl (by omega) ?_
   refine jm rfl rfl ?_
   refine qm rfl rfl ?_
   refine qn rfl rfl rfl ?_
   refine qt rfl rfl (by omega) ?_
   iterate 2 refine jm rfl rfl ?_
   refine qW rfl (WL1.give rfl (g_loadA rfl (.mk rfl rfl) rfl rfl (rdr_pt (.tail _ (.tail _ (.tail _ (.tail _ (.head _))))) (fun j u h => by simpa using h))) ?_)
   refine qm rfl rfl ?_
   refine qW rfl (WL1.callP rfl rfl rfl (.cons (.mk (v := .agg _) rfl rfl) (.cons (.mk (v := .slice _ _ _) rfl rfl) .nil)) (fun w hw => hVa w (IMat.of_rows hw (by repeat constructor) (by repeat constructor) rfl) (Sl.of_vec hw (by repeat constructor))) ?_)
   iterate 2 refine jm rfl rfl ?_
   refine wN hK ?_; clear hK
   refine WC.ret ?_
   all_goals first | exact fun w' hw' => ⟨rfl, hw'.1⟩ | (exfalso; omega)
end Go.Proofs.YtdcijljfgcjelaaGreat
namespace Go.Proofs.YtdcijljfgcjelaaGreat
set_option maxRecDepth 20000
def rallB : Nat → (Nat → Bool) → Bool
 | 0, _ => true
 | n + 1, f => f n && rallB n f
theorem rallB_at {f : Nat → Bool} : ∀ {n : Nat}, rallB n f = true → ∀ i, i < n → f i = true
 | n + 1, h, i, hi => by
   rw [rallB, Bool.and_eq_true] at h
   by_cases e : i = n
   · subst e; exact h.1
   · exact rallB_at h.2 i (by omega)
theorem bltT {a b : Nat} (h : Nat.blt a b = true) : a < b := Nat.le_of_ble_eq_true h
theorem bleT {a b : Nat} (h : Nat.ble a b = true) : a ≤ b := Nat.le_of_ble_eq_true h
theorem andT {a b : Bool} (h : (a && b) = true) : a = true ∧ b = true := by rwa [Bool.and_eq_true] at h
theorem decT {p : Prop} [Decidable p] (h : decide p = true) : p := of_decide_eq_true h
def finI (v k r t s : Nat) (gs : List (List Nat)) (d : Nat) (F P : List Mv) (i : Nat) (q : Tk) : Bool :=
 Nat.blt q.m.g (t * gs.length) && (Nat.blt q.m.p k && (Nat.blt q.m.d v && (Nat.ble (t * r) q.m.b && (Nat.blt q.m.b (t * r + s) && (rallB i (fun j => !(Nat.beq (nth F j).d q.m.d && Nat.beq (nth F j).b q.m.b)) && (incB (isort (dskL gs gs.length k F q.m.g)) && (decide (q.m = nxM gs gs.length k r t s v P (ddL v d) q.m.g q.m.p) && (Nat.ble 1 (chF P (dskL gs gs.length k P q.m.g) (ddL v d) s v).1 && (rallB k (fun p => Nat.blt (whD gs gs.length k P q.m.g p) v) && (Nat.ble (k - 3) (hp0 gs gs.length k P (ddL v d) q.m.g k).length && (decide (q.f = hlpL gs gs.length k P (ddL v d) q.m.g) && (Nat.beq q.f.length (k - 3) && (rallB (k - 3) (fun j => Nat.blt (nth q.f j) k) && !(Nat.beq q.m.d d))))))))))))))
def finB (v k r lam t s : Nat) (gs : List (List Nat)) (d : Nat) (ts : List Tk) : Bool :=
 rallB ts.length (fun i => finI v k r t s gs d (ts.map Tk.m) ((ts.map Tk.m).take i) i (nth ts i)) && (rallB (ts.length - 1) (fun i => Nat.blt (nth ts i).m.g (nth ts (i + 1)).m.g) && (decide (homL gs gs.length k r d (t * r) = (ts.map Tk.m).map fun m => (m.g, m.p)) && (rallB v (fun x => Nat.ble (usL (ts.map Tk.m) x).length 12) && (Nat.blt ts.length 64 && (Nat.blt d v && (Nat.beq (onP (gdP gs gs.length) d).length r && (rallB r (fun q => Nat.blt (nth (onP (gdP gs gs.length) d) q) gs.length) && (Nat.ble 1 r && (Nat.beq ts.length (t * r) && (Nat.beq (odL gs gs.length k r t (ts.map Tk.m) d).length 0 && (rallB v (fun x => Nat.ble (ldA gs gs.length k x ts) (shN k lam t)) && Nat.beq (ldA gs gs.length k d ts) 0)))))))))))
theorem usL_take (l : List Mv) (i x : Nat) : (usL (l.take i) x).length ≤ (usL l x).length := by
 have := usL_app (l.take i) (l.drop i) x
 rw [List.take_append_drop] at this
 rw [this, List.length_append]
 omega
theorem finB_spec {v k r lam t s : Nat} {gs : List (List Nat)} {d : Nat} {ts : List Tk} (h : finB v k r lam t s gs d ts = true) : FinOk v k r lam t s gs d ts := by
 unfold finB at h
 obtain ⟨hI, h⟩ := andT h
 obtain ⟨hinc, h⟩ := andT h
 obtain ⟨hlost, h⟩ := andT h
 obtain ⟨hus, h⟩ := andT h
 obtain ⟨hlen, h⟩ := andT h
 obtain ⟨hdv, h⟩ := andT h
 obtain ⟨honr, h⟩ := andT h
 obtain ⟨hong, h⟩ := andT h
 obtain ⟨hr1, h⟩ := andT h
 obtain ⟨hcnt, h⟩ := andT h
 obtain ⟨hod, h⟩ := andT h
 obtain ⟨hld, hl0⟩ := andT h
 have hml : (ts.map Tk.m).length = ts.length := List.length_map _
 have hn : ∀ i, i < ts.length → nth (ts.map Tk.m) i = (nth ts i).m := fun i hi => nth_map _ hi
 have hI := rallB_at hI
 have hlen := bltT hlen
 have hdv := bltT hdv
 unfold finI at hI
 have a1 := fun i hi => andT (hI i hi)
 have a2 := fun i hi => andT (a1 i hi).2
 have a3 := fun i hi => andT (a2 i hi).2
 have a4 := fun i hi => andT (a3 i hi).2
 have a5 := fun i hi => andT (a4 i hi).2
 have a6 := fun i hi => andT (a5 i hi).2
 have a7 := fun i hi => andT (a6 i hi).2
 have a8 := fun i hi => andT (a7 i hi).2
 have a9 := fun i hi => andT (a8 i hi).2
 have b1 := fun i hi => andT (a9 i hi).2
 have b2 := fun i hi => andT (b1 i hi).2
 have b3 := fun i hi => andT (b2 i hi).2
 have b4 := fun i hi => andT (b3 i hi).2
 have b5 := fun i hi => andT (b4 i hi).2
 have dl : (ddL v d).length = v := by unfold ddL; rw [List.length_set, List.length_replicate]
 refine ⟨⟨⟨fun i hi => ?_, fun i hi => ?_, fun i hi => ?_, fun i hi => ?_, fun i hi => ?_, fun i hi => ?_, fun i hi j hj => ?_, fun i hi => ?_, by omega⟩, decT hlost, fun i hi => decT (a8 i hi).1, fun i hi => bleT (a9 i hi).1, fun i _ x hx => Nat.le_trans (usL_take _ i x) (bleT (rallB_at hus x hx)), fun i hi p hp => bltT (rallB_at (b1 i hi).1 p hp), fun i hi => bleT (b2 i hi).1, fun i hi => decT (b3 i hi).1, hlen, dl, ?_, hdv, Nat.eq_of_beq_eq_true honr, fun q hq => bltT (rallB_at hong q hq), bleT hr1⟩, fun i hi => Nat.eq_of_beq_eq_true (b4 i hi).1, fun i hi j hj => bltT (rallB_at (b5 i hi).1 j hj), fun i hi e => ?_, Nat.eq_of_beq_eq_true hcnt, List.eq_nil_of_length_eq_zero (Nat.eq_of_beq_eq_true hod), fun x hx => bleT (rallB_at hld x hx), Nat.eq_of_beq_eq_true hl0⟩
 · rw [hml] at hi; rw [hn i hi]; exact bltT (a1 i hi).1
 · rw [hml] at hi; rw [hn i hi]; exact bltT (a2 i hi).1
 · rw [hml] at hi; rw [hn i hi]; exact bltT (a3 i hi).1
 · rw [hml] at hi; rw [hn i hi]; exact bleT (a4 i hi).1
 · rw [hml] at hi; rw [hn i hi]; exact bltT (a5 i hi).1
 · rw [hml] at hi; rw [hn i (by omega), hn (i + 1) hi]; exact bltT (rallB_at hinc i (by omega))
 · rw [hml] at hi
   rw [hn i hi]
   rintro ⟨e1, e2⟩
   have := rallB_at (a6 i hi).1 j hj
   rw [e1, e2, Nat.beq_refl, Nat.beq_refl] at this
   exact absurd this (by decide)
 · rw [hml] at hi; rw [hn i hi]; exact incB_sinc (a7 i hi).1
 · unfold ddL nth
   rw [List.getD_eq_getElem?_getD, List.getElem?_set_self (by rw [List.length_replicate]; exact hdv)]
   rfl
 · have := (b5 i hi).2
   rw [e, Nat.beq_refl] at this
   exact absurd this (by decide)
def fD : Nat → Nat → List Nat
 | 0, _ => []
 | q + 1, n => n % 16 :: fD q (n / 16)
def tkD (q n : Nat) : Tk := ⟨⟨n % 128, n / 128 % 16, n / 2048 % 16, n / 32768 % 128⟩, fD q (n / 4194304)⟩
def cB (v k r lam : Nat) (gs : List (List Nat)) (T : List (List (List Nat))) (t d : Nat) : Bool := finB v k r lam (t + 1) 39 gs d ((nth (nth T t) d).map (tkD (k - 3)))
def allF (v k r lam : Nat) (gs : List (List Nat)) (T : List (List (List Nat))) : Bool := rallB 3 fun t => rallB v (cB v k r lam gs T t)
theorem rA {n : Nat} {f : Nat → Bool} (h : f n = true) (k : rallB n f = true) : rallB (n + 1) f = true := by rw [rallB, h, k]; rfl
theorem rZ {f : Nat → Bool} : rallB 0 f = true := rfl
theorem allF_spec {v k r lam : Nat} {gs g2 : List (List Nat)} {T : List (List (List Nat))} (h : allF v k r lam gs T = true) (hg : g2 = gs) {t d : Nat} (h1 : 1 ≤ t) (h3 : t ≤ 3) (hd : d < v) : ∃ ts, FinOk v k r lam t 39 g2 d ts := by
 have := rallB_at (rallB_at h (t - 1) (by omega)) d hd
 unfold cB at this
 rw [show t - 1 + 1 = t by omega] at this
 subst hg
 exact ⟨_, finB_spec this⟩
def rg54 : List (List Nat) := [[0,1,2,3], [0,1,2,4], [0,1,3,4], [0,2,3,4], [1,2,3,4]]
theorem rq54 : cmb 5 4 [] 0 = rg54 := by decide +kernel
def rt54 : List (List (List Nat)) := [
 [[12722176,12720129,12718082,12716035],
 [12722304,12720257,12718210,12713988],
 [12722432,12720385,12716163,12714116],
 [8528256,12718338,12716291,12714244],
 [8526209,8524162,8522115,8520068]],
 [[12853248,12851201,12849154,12847107,303493,301446,299399,297352],
 [12853376,12851329,12849282,12845060,12886021,12883974,12881927,295305],
 [12853504,12851457,12847235,12845188,12886149,12884102,12879880,12877833],
 [8659328,12849410,12847363,12845316,12886277,12882055,12880008,12877961],
 [8657281,8655234,8653187,8651140,12884230,12882183,12880136,12878089]],
 [[12984320,12982273,12980226,12978179,434565,432518,430471,428424,467210,465163,463116,461069],
 [12984448,12982401,12980354,12976132,13017093,13015046,13012999,426377,467338,465291,463244,459022],
 [12984576,12982529,12978307,12976260,13017221,13015174,13010952,13008905,13049866,13047819,461197,459150],
 [8790400,12980482,12978435,12976388,13017349,13013127,13011080,13009033,13049994,13045772,13043725,13041678],
 [8788353,8786306,8784259,8782212,13015302,13013255,13011208,13009161,13047947,13045900,13043853,13041806]]]
theorem r54_0_0 : cB 5 4 4 3 rg54 rt54 0 0 = true := by decide +kernel
theorem r54_0_1 : cB 5 4 4 3 rg54 rt54 0 1 = true := by decide +kernel
theorem r54_0_2 : cB 5 4 4 3 rg54 rt54 0 2 = true := by decide +kernel
theorem r54_0_3 : cB 5 4 4 3 rg54 rt54 0 3 = true := by decide +kernel
theorem r54_0_4 : cB 5 4 4 3 rg54 rt54 0 4 = true := by decide +kernel
theorem r54_1_0 : cB 5 4 4 3 rg54 rt54 1 0 = true := by decide +kernel
theorem r54_1_1 : cB 5 4 4 3 rg54 rt54 1 1 = true := by decide +kernel
theorem r54_1_2 : cB 5 4 4 3 rg54 rt54 1 2 = true := by decide +kernel
theorem r54_1_3 : cB 5 4 4 3 rg54 rt54 1 3 = true := by decide +kernel
theorem r54_1_4 : cB 5 4 4 3 rg54 rt54 1 4 = true := by decide +kernel
theorem r54_2_0 : cB 5 4 4 3 rg54 rt54 2 0 = true := by decide +kernel
theorem r54_2_1 : cB 5 4 4 3 rg54 rt54 2 1 = true := by decide +kernel
theorem r54_2_2 : cB 5 4 4 3 rg54 rt54 2 2 = true := by decide +kernel
theorem r54_2_3 : cB 5 4 4 3 rg54 rt54 2 3 = true := by decide +kernel
theorem r54_2_4 : cB 5 4 4 3 rg54 rt54 2 4 = true := by decide +kernel
theorem rf54 : allF 5 4 4 3 rg54 rt54 = true :=
 rA (rA r54_2_4 (rA r54_2_3 (rA r54_2_2 (rA r54_2_1 (rA r54_2_0 rZ))))) (rA (rA r54_1_4 (rA r54_1_3 (rA r54_1_2 (rA r54_1_1 (rA r54_1_0 rZ))))) (rA (rA r54_0_4 (rA r54_0_3 (rA r54_0_2 (rA r54_0_1 (rA r54_0_0 rZ))))) rZ))
def rg64 : List (List Nat) := [[0,1,2,3], [0,1,2,4], [0,1,2,5], [0,1,3,4], [0,1,3,5], [0,1,4,5], [0,2,3,4], [0,2,3,5], [0,2,4,5], [0,3,4,5], [1,2,3,4], [1,2,3,5], [1,2,4,5], [1,3,4,5], [2,3,4,5]]
theorem rq64 : cmb 6 4 [] 0 = rg64 := by decide +kernel
def rt64 : List (List (List Nat)) := [
 [[12918784,12916737,12949506,12914691,12947460,12980229,12912646,12945415,12978184,13010953],
 [12918912,12916865,12949634,12914819,12947588,12980357,12910602,12943371,12976140,13008909],
 [12919040,12916993,12949762,12912774,12945543,12978312,12910730,12943499,12976268,13008910],
 [8724864,12914947,12947716,12912902,12945671,12978313,12910858,12943627,12976269,13009038],
 [8722817,8720771,12947717,8718726,12945672,12978441,8716682,12943628,12976397,13009166],
 [8722818,8720772,8753541,8718727,8751496,8784265,8716683,8749452,8782221,8814990]],
 [[13246464,13244417,13277186,13242371,13275140,13307909,13240326,13273095,13305864,13338633,665999,698768,696721,731538,729491,727444,764309,762262,760215,758168],
 [13246592,13244545,13277314,13242499,13275268,13308037,13238282,13271051,13303820,13336589,13248527,13281296,13279249,13314066,13312019,13309972,764313,762266,760219,758172],
 [13246720,13244673,13277442,13240454,13273223,13305992,13238410,13271179,13303948,13336590,13248655,13281424,13279377,13314069,13312022,13309975,13346841,13344794,13342747,756125],
 [9052544,13242627,13275396,13240582,13273351,13305993,13238538,13271307,13303949,13336718,13248783,13281426,13279379,13314197,13312150,13307928,13346969,13344922,13340700,13338653],
 [9050497,9048451,13275397,9046406,13273352,13306121,9044362,13271308,13304077,13336846,13248784,13281554,13277332,13314325,13310103,13308056,13347097,13342875,13340828,13338781],
 [9050498,9048452,9081221,9046407,9079176,9111945,9044363,9077132,9109901,9142670,13246737,13279507,13277460,13312278,13310231,13308184,13345050,13343003,13340956,13338909]],
 [[13574144,13572097,13604866,13570051,13602820,13635589,13568006,13600775,13633544,13666313,993679,1026448,1024401,1059218,1057171,1055124,1091989,1089942,1087895,1085848,1122590,1120543,1153312,1118497,1151266,1184035,1116452,1149221,1181990,1214759],
 [13574272,13572225,13604994,13570179,13602948,13635717,13565962,13598731,13631500,13664269,13576207,13608976,13606929,13641746,13639699,13637652,1091993,1089946,1087899,1085852,1122718,1120671,1153440,1118625,1151394,1184163,1114408,1147177,1179946,1212715],
 [13574400,13572353,13605122,13568134,13600903,13633672,13566090,13598859,13631628,13664270,13576335,13609104,13607057,13641749,13639702,13637655,13674521,13672474,13670427,1083805,13705246,13703199,13735968,1116580,1149349,1182118,1114536,1147305,1180074,1212716],
 [9380224,13570307,13603076,13568262,13601031,13633673,13566218,13598987,13631629,13664398,13576463,13609106,13607059,13641877,13639830,13635608,13674649,13672602,13668380,13666333,13705374,13701153,13733922,13699108,13731877,1182119,13697064,13729833,1180075,1212844],
 [9378177,9376131,13603077,9374086,13601032,13633801,9372042,13598988,13631757,13664526,13576464,13609234,13605012,13642005,13637783,13635736,13674777,13670555,13668508,13666461,13703327,13701281,13733923,13699236,13731878,13764647,13697192,13729834,13762603,13795372],
 [9378178,9376132,9408901,9374087,9406856,9439625,9372043,9404812,9437581,9470350,13574417,13607187,13605140,13639958,13637911,13635864,13672730,13670683,13668636,13666589,13703328,13701282,13734051,13699237,13732006,13764775,13697193,13729962,13762731,13795500]]]
theorem r64_0_0 : cB 6 4 10 6 rg64 rt64 0 0 = true := by decide +kernel
theorem r64_0_1 : cB 6 4 10 6 rg64 rt64 0 1 = true := by decide +kernel
theorem r64_0_2 : cB 6 4 10 6 rg64 rt64 0 2 = true := by decide +kernel
theorem r64_0_3 : cB 6 4 10 6 rg64 rt64 0 3 = true := by decide +kernel
theorem r64_0_4 : cB 6 4 10 6 rg64 rt64 0 4 = true := by decide +kernel
theorem r64_0_5 : cB 6 4 10 6 rg64 rt64 0 5 = true := by decide +kernel
theorem r64_1_0 : cB 6 4 10 6 rg64 rt64 1 0 = true := by decide +kernel
theorem r64_1_1 : cB 6 4 10 6 rg64 rt64 1 1 = true := by decide +kernel
theorem r64_1_2 : cB 6 4 10 6 rg64 rt64 1 2 = true := by decide +kernel
theorem r64_1_3 : cB 6 4 10 6 rg64 rt64 1 3 = true := by decide +kernel
theorem r64_1_4 : cB 6 4 10 6 rg64 rt64 1 4 = true := by decide +kernel
theorem r64_1_5 : cB 6 4 10 6 rg64 rt64 1 5 = true := by decide +kernel
theorem r64_2_0 : cB 6 4 10 6 rg64 rt64 2 0 = true := by decide +kernel
theorem r64_2_1 : cB 6 4 10 6 rg64 rt64 2 1 = true := by decide +kernel
theorem r64_2_2 : cB 6 4 10 6 rg64 rt64 2 2 = true := by decide +kernel
theorem r64_2_3 : cB 6 4 10 6 rg64 rt64 2 3 = true := by decide +kernel
theorem r64_2_4 : cB 6 4 10 6 rg64 rt64 2 4 = true := by decide +kernel
theorem r64_2_5 : cB 6 4 10 6 rg64 rt64 2 5 = true := by decide +kernel
theorem rf64 : allF 6 4 10 6 rg64 rt64 = true :=
 rA (rA r64_2_5 (rA r64_2_4 (rA r64_2_3 (rA r64_2_2 (rA r64_2_1 (rA r64_2_0 rZ)))))) (rA (rA r64_1_5 (rA r64_1_4 (rA r64_1_3 (rA r64_1_2 (rA r64_1_1 (rA r64_1_0 rZ)))))) (rA (rA r64_0_5 (rA r64_0_4 (rA r64_0_3 (rA r64_0_2 (rA r64_0_1 (rA r64_0_0 rZ)))))) rZ))
def rg65 : List (List Nat) := [[0,1,2,3,4], [0,1,2,3,5], [0,1,2,4,5], [0,1,3,4,5], [0,2,3,4,5], [1,2,3,4,5]]
theorem rq65 : cmb 6 5 [] 0 = rg65 := by decide +kernel
def rt65 : List (List (List Nat)) := [
 [[281192448,281190401,281188354,281186307,281184260],
 [281192576,281190529,281188482,281186435,281182213],
 [281192704,281190657,281188610,281184388,281182341],
 [276998528,276996481,281186563,281184516,281182469],
 [209889792,276994434,276992387,276990340,276988293],
 [209887745,209885698,209883651,209881604,209879557]],
 [[281356288,281354241,281352194,281350147,281348100,201697798,201695751,201693704,201691657,201689610],
 [281356416,281354369,281352322,281350275,281346053,281389062,281387015,281384968,281382921,201687563],
 [281356544,281354497,281352450,281348228,281346181,281389190,281387143,281385096,281380874,281378827],
 [277162368,277160321,281350403,281348356,281346309,281389318,281387271,281383049,281381002,281378955],
 [210053632,277158274,277156227,277154180,277152133,277195142,281385224,281383177,281381130,281379083],
 [210051585,210049538,210047491,210045444,210043397,277193095,277191048,277189001,277186954,277184907]],
 [[281520128,281518081,281516034,281513987,281511940,201861638,201859591,201857544,201855497,201853450,269003148,269001101,268999054,268997007,268994960],
 [281520256,281518209,281516162,281514115,281509893,281552902,281550855,281548808,281546761,201851403,201894412,201892365,201890318,201888271,268992913],
 [281520384,281518337,281516290,281512068,281510021,281553030,281550983,281548936,281544714,281542667,281585676,281583629,281581582,201886224,201884177],
 [277326208,277324161,281514243,281512196,281510149,281553158,281551111,281546889,281544842,281542795,281585804,281583757,281579535,281577488,281575441],
 [210217472,277322114,277320067,277318020,277315973,277358982,281549064,281547017,281544970,281542923,281585932,281581710,281579663,281577616,281575569],
 [210215425,210213378,210211331,210209284,210207237,277356935,277354888,277352841,277350794,277348747,281583885,281581838,281579791,281577744,281575697]]]
theorem r65_0_0 : cB 6 5 5 4 rg65 rt65 0 0 = true := by decide +kernel
theorem r65_0_1 : cB 6 5 5 4 rg65 rt65 0 1 = true := by decide +kernel
theorem r65_0_2 : cB 6 5 5 4 rg65 rt65 0 2 = true := by decide +kernel
theorem r65_0_3 : cB 6 5 5 4 rg65 rt65 0 3 = true := by decide +kernel
theorem r65_0_4 : cB 6 5 5 4 rg65 rt65 0 4 = true := by decide +kernel
theorem r65_0_5 : cB 6 5 5 4 rg65 rt65 0 5 = true := by decide +kernel
theorem r65_1_0 : cB 6 5 5 4 rg65 rt65 1 0 = true := by decide +kernel
theorem r65_1_1 : cB 6 5 5 4 rg65 rt65 1 1 = true := by decide +kernel
theorem r65_1_2 : cB 6 5 5 4 rg65 rt65 1 2 = true := by decide +kernel
theorem r65_1_3 : cB 6 5 5 4 rg65 rt65 1 3 = true := by decide +kernel
theorem r65_1_4 : cB 6 5 5 4 rg65 rt65 1 4 = true := by decide +kernel
theorem r65_1_5 : cB 6 5 5 4 rg65 rt65 1 5 = true := by decide +kernel
theorem r65_2_0 : cB 6 5 5 4 rg65 rt65 2 0 = true := by decide +kernel
theorem r65_2_1 : cB 6 5 5 4 rg65 rt65 2 1 = true := by decide +kernel
theorem r65_2_2 : cB 6 5 5 4 rg65 rt65 2 2 = true := by decide +kernel
theorem r65_2_3 : cB 6 5 5 4 rg65 rt65 2 3 = true := by decide +kernel
theorem r65_2_4 : cB 6 5 5 4 rg65 rt65 2 4 = true := by decide +kernel
theorem r65_2_5 : cB 6 5 5 4 rg65 rt65 2 5 = true := by decide +kernel
theorem rf65 : allF 6 5 5 4 rg65 rt65 = true :=
 rA (rA r65_2_5 (rA r65_2_4 (rA r65_2_3 (rA r65_2_2 (rA r65_2_1 (rA r65_2_0 rZ)))))) (rA (rA r65_1_5 (rA r65_1_4 (rA r65_1_3 (rA r65_1_2 (rA r65_1_1 (rA r65_1_0 rZ)))))) (rA (rA r65_0_5 (rA r65_0_4 (rA r65_0_3 (rA r65_0_2 (rA r65_0_1 (rA r65_0_0 rZ)))))) rZ))
def rg75 : List (List Nat) := [[0,1,2,3,4], [0,1,2,3,5], [0,1,2,3,6], [0,1,2,4,5], [0,1,2,4,6], [0,1,2,5,6], [0,1,3,4,5], [0,1,3,4,6], [0,1,3,5,6], [0,1,4,5,6], [0,2,3,4,5], [0,2,3,4,6], [0,2,3,5,6], [0,2,4,5,6], [0,3,4,5,6], [1,2,3,4,5], [1,2,3,4,6], [1,2,3,5,6], [1,2,4,5,6], [1,3,4,5,6], [2,3,4,5,6]]
theorem rq75 : cmb 7 5 [] 0 = rg75 := by decide +kernel
def rt75 : List (List (List Nat)) := [
 [[281520128,281518081,281550850,281516035,281548804,281581573,281513990,281546759,281579528,281612297,281511946,281544715,281577484,281610253,281643022],
 [281520256,281518209,281550978,281516163,281548932,281581701,281514118,281546887,281579656,281612425,281509903,281542672,281575441,281608210,281640979],
 [281520384,281518337,281551106,281516291,281549060,281581829,281512074,281544843,281577612,281610381,281510031,281542800,281575569,281608338,281640980],
 [277326208,277324161,277356930,281514246,281547015,281579784,281512202,281544971,281577740,281610382,281510159,281542928,281575697,281608339,281641108],
 [210217472,277322115,277354884,277320070,277352839,281579785,277318026,277350795,281577741,281610510,277315983,277348752,281575698,281608467,281641236],
 [210215425,210213379,277354885,210211334,277352840,277385609,210209290,277350796,277383565,277416334,210207247,277348753,277381522,277414291,277447060],
 [210215426,210213380,210246149,210211335,210244104,210276873,210209291,210242060,210274829,210307598,210207248,210240017,210272786,210305555,210338324]],
 [[282011648,282009601,282042370,282007555,282040324,282073093,282005510,282038279,282071048,282103817,282003466,282036235,282069004,282101773,282134542,202322453,202355222,202353175,202387992,202385945,202383898,202420763,202418716,202416669,202414622,202453535,202451488,202449441,202447394,202445347],
 [282011776,282009729,282042498,282007683,282040452,282073221,282005638,282038407,282071176,282103945,282001423,282034192,282066961,282099730,282132499,282013717,282046486,282044439,282079256,282077209,282075162,282112027,282109980,282107933,282105886,202453540,202451493,202449446,202447399,202445352],
 [282011904,282009857,282042626,282007811,282040580,282073349,282003594,282036363,282069132,282101901,282001551,282034320,282067089,282099858,282132500,282013845,282046614,282044567,282079384,282077337,282075290,282112031,282109984,282107937,282105890,282144804,282142757,282140710,282138663,202443305],
 [277817728,277815681,277848450,282005766,282038535,282071304,282003722,282036491,282069260,282101902,282001679,282034448,282067217,282099859,282132628,282013973,282046742,282044695,282079387,282077340,282075293,282112159,282110112,282108065,282103843,282144932,282142885,282140838,282136616,282134569],
 [210708992,277813635,277846404,277811590,277844359,282071305,277809546,277842315,282069261,282102030,277807503,277840272,282067218,282099987,282132756,277819797,282046744,282044697,282079515,282077468,282073246,282112287,282110240,282106018,282103971,282145060,282143013,282138791,282136744,282134697],
 [210706945,210704899,277846405,210702854,277844360,277877129,210700810,277842316,277875085,277907854,210698767,277840273,277873042,277905811,277938580,277819798,277852568,282042650,277885339,282075421,282073374,277918111,282108193,282106146,282104099,277950884,282140966,282138919,282136872,282134825],
 [210706946,210704900,210737669,210702855,210735624,210768393,210700811,210733580,210766349,210799118,210698768,210731537,210764306,210797075,210829844,277817751,277850521,277848474,277883292,277881245,277879198,277916064,277914017,277911970,277909923,277948837,277946790,277944743,277942696,277940649]],
 [[282503168,282501121,282533890,282499075,282531844,282564613,282497030,282529799,282562568,282595337,282494986,282527755,282560524,282593293,282626062,202813973,202846742,202844695,202879512,202877465,202875418,202912283,202910236,202908189,202906142,202945055,202943008,202940961,202938914,202936867,270084522,270082475,270115244,270080429,270113198,270145967,270078384,270111153,270143922,270176691,270076340,270109109,270141878,270174647,270207416],
 [282503296,282501249,282534018,282499203,282531972,282564741,282497158,282529927,282562696,282595465,282492943,282525712,282558481,282591250,282624019,282505237,282538006,282535959,282570776,282568729,282566682,282603547,282601500,282599453,282597406,202945060,202943013,202940966,202938919,202936872,202975786,202973739,203006508,202971693,203004462,203037231,202969648,203002417,203035186,203067955,270074297,270107066,270139835,270172604,270205373],
 [282503424,282501377,282534146,282499331,282532100,282564869,282495114,282527883,282560652,282593421,282493071,282525840,282558609,282591378,282624020,282505365,282538134,282536087,282570904,282568857,282566810,282603551,282601504,282599457,282597410,282636324,282634277,282632230,282630183,202934825,282667050,282665003,282697772,282662957,282695726,282728495,202967604,203000373,203033142,203065911,202965561,202998330,203031099,203063868,270205374],
 [278309248,278307201,278339970,282497286,282530055,282562824,282495242,282528011,282560780,282593422,282493199,282525968,282558737,282591379,282624148,282505493,282538262,282536215,282570907,282568860,282566813,282603679,282601632,282599585,282595363,282636452,282634405,282632358,282628136,282626089,282667178,282665131,282697900,282660912,282693681,282726450,282658868,282691637,282724406,203065912,282656825,282689594,282722363,203063869,203096638],
 [211200512,278305155,278337924,278303110,278335879,282562825,278301066,278333835,282560781,282593550,278299023,278331792,282558738,282591507,282624276,278311317,282538264,282536217,282571035,282568988,282564766,282603807,282601760,282597538,282595491,282636580,282634533,282630311,282628264,282626217,282667306,282663085,282695854,282661040,282693809,282726451,282658996,282691765,282724407,282757176,282656953,282689722,282722364,282755133,282787902],
 [211198465,211196419,278337925,211194374,278335880,278368649,211192330,278333836,278366605,278399374,211190287,278331793,278364562,278397331,278430100,278311318,278344088,282534170,278376859,282566941,282564894,278409631,282599713,282597666,282595619,278442404,282632486,282630439,282628392,282626345,282665259,282663213,282695855,282661168,282693810,282726579,282659124,282691766,282724535,282757304,282657081,282689723,282722492,282755261,282788030],
 [211198466,211196420,211229189,211194375,211227144,211259913,211192331,211225100,211257869,211290638,211190288,211223057,211255826,211288595,211321364,278309271,278342041,278339994,278374812,278372765,278370718,278407584,278405537,278403490,278401443,278440357,278438310,278436263,278434216,278432169,282665260,282663214,282695983,282661169,282693938,282726707,282659125,282691894,282724663,282757432,282657082,282689851,282722620,282755389,282788158]]]
theorem r75_0_0 : cB 7 5 15 10 rg75 rt75 0 0 = true := by decide +kernel
theorem r75_0_1 : cB 7 5 15 10 rg75 rt75 0 1 = true := by decide +kernel
theorem r75_0_2 : cB 7 5 15 10 rg75 rt75 0 2 = true := by decide +kernel
theorem r75_0_3 : cB 7 5 15 10 rg75 rt75 0 3 = true := by decide +kernel
theorem r75_0_4 : cB 7 5 15 10 rg75 rt75 0 4 = true := by decide +kernel
theorem r75_0_5 : cB 7 5 15 10 rg75 rt75 0 5 = true := by decide +kernel
theorem r75_0_6 : cB 7 5 15 10 rg75 rt75 0 6 = true := by decide +kernel
theorem r75_1_0 : cB 7 5 15 10 rg75 rt75 1 0 = true := by decide +kernel
theorem r75_1_1 : cB 7 5 15 10 rg75 rt75 1 1 = true := by decide +kernel
theorem r75_1_2 : cB 7 5 15 10 rg75 rt75 1 2 = true := by decide +kernel
theorem r75_1_3 : cB 7 5 15 10 rg75 rt75 1 3 = true := by decide +kernel
theorem r75_1_4 : cB 7 5 15 10 rg75 rt75 1 4 = true := by decide +kernel
theorem r75_1_5 : cB 7 5 15 10 rg75 rt75 1 5 = true := by decide +kernel
theorem r75_1_6 : cB 7 5 15 10 rg75 rt75 1 6 = true := by decide +kernel
theorem r75_2_0 : cB 7 5 15 10 rg75 rt75 2 0 = true := by decide +kernel
theorem r75_2_1 : cB 7 5 15 10 rg75 rt75 2 1 = true := by decide +kernel
theorem r75_2_2 : cB 7 5 15 10 rg75 rt75 2 2 = true := by decide +kernel
theorem r75_2_3 : cB 7 5 15 10 rg75 rt75 2 3 = true := by decide +kernel
theorem r75_2_4 : cB 7 5 15 10 rg75 rt75 2 4 = true := by decide +kernel
theorem r75_2_5 : cB 7 5 15 10 rg75 rt75 2 5 = true := by decide +kernel
theorem r75_2_6 : cB 7 5 15 10 rg75 rt75 2 6 = true := by decide +kernel
theorem rf75 : allF 7 5 15 10 rg75 rt75 = true :=
 rA (rA r75_2_6 (rA r75_2_5 (rA r75_2_4 (rA r75_2_3 (rA r75_2_2 (rA r75_2_1 (rA r75_2_0 rZ))))))) (rA (rA r75_1_6 (rA r75_1_5 (rA r75_1_4 (rA r75_1_3 (rA r75_1_2 (rA r75_1_1 (rA r75_1_0 rZ))))))) (rA (rA r75_0_6 (rA r75_0_5 (rA r75_0_4 (rA r75_0_3 (rA r75_0_2 (rA r75_0_1 (rA r75_0_0 rZ))))))) rZ))
def rg76 : List (List Nat) := [[0,1,2,3,4,5], [0,1,2,3,4,6], [0,1,2,3,5,6], [0,1,2,4,5,6], [0,1,3,4,5,6], [0,2,3,4,5,6], [1,2,3,4,5,6]]
theorem rq76 : cmb 7 6 [] 0 = rg76 := by decide +kernel
def rt76 : List (List (List Nat)) := [
 [[5649936384,5649934337,5649932290,5649930243,5649928196,5649926149],
 [5649936512,5649934465,5649932418,5649930371,5649928324,5649924102],
 [5649936640,5649934593,5649932546,5649930499,5649926277,5649924230],
 [5645742464,5645740417,5645738370,5649928452,5649926405,5649924358],
 [5578633728,5578631681,5645736323,5645734276,5645732229,5645730182],
 [4504892032,5578629634,5578627587,5578625540,5578623493,5578621446],
 [4504889985,4504887938,4504885891,4504883844,4504881797,4504879750]],
 [[5650132992,5650130945,5650128898,5650126851,5650124804,5650122757,4496732807,4496730760,4496728713,4496726666,4496724619,4496722572],
 [5650133120,5650131073,5650129026,5650126979,5650124932,5650120710,5650165767,5650163720,5650161673,5650159626,5650157579,4496720525],
 [5650133248,5650131201,5650129154,5650127107,5650122885,5650120838,5650165895,5650163848,5650161801,5650159754,5650155532,5650153485],
 [5645939072,5645937025,5645934978,5650125060,5650123013,5650120966,5650166023,5650163976,5650161929,5650157707,5650155660,5650153613],
 [5578830336,5578828289,5645932931,5645930884,5645928837,5645926790,5645971847,5645969800,5650159882,5650157835,5650155788,5650153741],
 [4505088640,5578826242,5578824195,5578822148,5578820101,5578818054,5578863111,5645967753,5645965706,5645963659,5645961612,5645959565],
 [4505086593,4505084546,4505082499,4505080452,4505078405,4505076358,5578861064,5578859017,5578856970,5578854923,5578852876,5578850829]],
 [[5650329600,5650327553,5650325506,5650323459,5650321412,5650319365,4496929415,4496927368,4496925321,4496923274,4496921227,4496919180,5570703886,5570701839,5570699792,5570697745,5570695698,5570693651],
 [5650329728,5650327681,5650325634,5650323587,5650321540,5650317318,5650362375,5650360328,5650358281,5650356234,5650354187,4496917133,4496962190,4496960143,4496958096,4496956049,4496954002,5570691604],
 [5650329856,5650327809,5650325762,5650323715,5650319493,5650317446,5650362503,5650360456,5650358409,5650356362,5650352140,5650350093,5650395150,5650393103,5650391056,5650389009,4496951955,4496949908],
 [5646135680,5646133633,5646131586,5650321668,5650319621,5650317574,5650362631,5650360584,5650358537,5650354315,5650352268,5650350221,5650395278,5650393231,5650391184,5650386962,5650384915,5650382868],
 [5579026944,5579024897,5646129539,5646127492,5646125445,5646123398,5646168455,5646166408,5650356490,5650354443,5650352396,5650350349,5650395406,5650393359,5650389137,5650387090,5650385043,5650382996],
 [4505285248,5579022850,5579020803,5579018756,5579016709,5579014662,5579059719,5646164361,5646162314,5646160267,5646158220,5646156173,5646201230,5650391312,5650389265,5650387218,5650385171,5650383124],
 [4505283201,4505281154,4505279107,4505277060,4505275013,4505272966,5579057672,5579055625,5579053578,5579051531,5579049484,5579047437,5646199183,5646197136,5646195089,5646193042,5646190995,5646188948]]]
theorem r76_0_0 : cB 7 6 6 5 rg76 rt76 0 0 = true := by decide +kernel
theorem r76_0_1 : cB 7 6 6 5 rg76 rt76 0 1 = true := by decide +kernel
theorem r76_0_2 : cB 7 6 6 5 rg76 rt76 0 2 = true := by decide +kernel
theorem r76_0_3 : cB 7 6 6 5 rg76 rt76 0 3 = true := by decide +kernel
theorem r76_0_4 : cB 7 6 6 5 rg76 rt76 0 4 = true := by decide +kernel
theorem r76_0_5 : cB 7 6 6 5 rg76 rt76 0 5 = true := by decide +kernel
theorem r76_0_6 : cB 7 6 6 5 rg76 rt76 0 6 = true := by decide +kernel
theorem r76_1_0 : cB 7 6 6 5 rg76 rt76 1 0 = true := by decide +kernel
theorem r76_1_1 : cB 7 6 6 5 rg76 rt76 1 1 = true := by decide +kernel
theorem r76_1_2 : cB 7 6 6 5 rg76 rt76 1 2 = true := by decide +kernel
theorem r76_1_3 : cB 7 6 6 5 rg76 rt76 1 3 = true := by decide +kernel
theorem r76_1_4 : cB 7 6 6 5 rg76 rt76 1 4 = true := by decide +kernel
theorem r76_1_5 : cB 7 6 6 5 rg76 rt76 1 5 = true := by decide +kernel
theorem r76_1_6 : cB 7 6 6 5 rg76 rt76 1 6 = true := by decide +kernel
theorem r76_2_0 : cB 7 6 6 5 rg76 rt76 2 0 = true := by decide +kernel
theorem r76_2_1 : cB 7 6 6 5 rg76 rt76 2 1 = true := by decide +kernel
theorem r76_2_2 : cB 7 6 6 5 rg76 rt76 2 2 = true := by decide +kernel
theorem r76_2_3 : cB 7 6 6 5 rg76 rt76 2 3 = true := by decide +kernel
theorem r76_2_4 : cB 7 6 6 5 rg76 rt76 2 4 = true := by decide +kernel
theorem r76_2_5 : cB 7 6 6 5 rg76 rt76 2 5 = true := by decide +kernel
theorem r76_2_6 : cB 7 6 6 5 rg76 rt76 2 6 = true := by decide +kernel
theorem rf76 : allF 7 6 6 5 rg76 rt76 = true :=
 rA (rA r76_2_6 (rA r76_2_5 (rA r76_2_4 (rA r76_2_3 (rA r76_2_2 (rA r76_2_1 (rA r76_2_0 rZ))))))) (rA (rA r76_1_6 (rA r76_1_5 (rA r76_1_4 (rA r76_1_3 (rA r76_1_2 (rA r76_1_1 (rA r76_1_0 rZ))))))) (rA (rA r76_0_6 (rA r76_0_5 (rA r76_0_4 (rA r76_0_3 (rA r76_0_2 (rA r76_0_1 (rA r76_0_0 rZ))))))) rZ))
def rg134 : List (List Nat) := [[1,4,7,10], [0,4,5,6], [3,4,9,11], [2,4,8,12], [0,1,2,3], [1,6,9,12], [1,5,8,11], [0,10,11,12], [3,6,8,10], [2,5,9,10], [0,7,8,9], [2,6,7,11], [3,5,7,12]]
theorem rq134 : plG = rg134 := by decide +kernel
def rt134 : List (List (List Nat)) := [
 [[12716033,12722180,12718087,12720138],
 [12713984,12722308,12718085,12720134],
 [12713987,12722436,12716041,12720139],
 [12713986,8528260,12716040,12718092],
 [12714112,12716161,12718210,12720259],
 [12716289,12714118,12720265,12718220],
 [8522113,12714117,12718216,12720267],
 [12714240,12716170,12720395,12718348],
 [12714243,12718342,12716296,12720394],
 [12714242,12718341,12716297,8526218],
 [8520064,12716167,8524168,8526217],
 [8520066,8524166,12716295,8526219],
 [8520067,8524165,8522119,8528268]],
 [[12847105,12853252,12849159,12851210,276878,272785,274836,283031],
 [12845056,12853380,12849157,12851206,272781,12857361,276882,280979],
 [12845059,12853508,12847113,12851211,272784,12857489,276886,278936],
 [12845058,8659332,12847112,12849164,272783,12857617,276885,278937],
 [12845184,12847233,12849282,12851331,12855309,12859406,12857359,12863504],
 [12847361,12845190,12851337,12849292,12859534,12853267,12857366,12861465],
 [8653185,12845189,12849288,12851339,12859662,12853266,12855317,12861464],
 [12845312,12847242,12851467,12849420,12855437,12853271,12861592,12857497],
 [12845315,12849414,12847368,12851466,12855440,12853395,12859541,12857495],
 [12845314,12849413,12847369,8657290,12855439,12853394,12857494,12865815],
 [8651136,12847239,8655240,8657289,12855565,12853268,12859669,12857622],
 [8651138,8655238,12847367,8657291,12855567,12853523,12857492,12861720],
 [8651139,8655237,8653191,8659340,12851472,12855570,12857620,12861721]],
 [[12978177,12984324,12980231,12982282,407950,403857,405908,414103,409883,411934,428321,416036],
 [12976128,12984452,12980229,12982278,403853,12988433,407954,412051,409882,414110,416031,418080],
 [12976131,12984580,12978185,12982283,403856,12988561,407958,410008,411933,12996638,416035,418085],
 [12976130,8790404,12978184,12980236,403855,12988689,407957,410009,413980,12994718,416034,426278],
 [12976256,12978305,12980354,12982403,12986381,12990478,12988431,12994576,410010,414107,418204,416157],
 [12978433,12976262,12982409,12980364,12990606,12984339,12988438,12992537,12994587,414112,416163,426406],
 [8784257,12976261,12980360,12982411,12990734,12984338,12986389,12992536,12994715,414111,416162,418213],
 [12976384,12978314,12982539,12980492,12986509,12984343,12992664,12988569,12994586,414116,13000741,12998694],
 [12976387,12980486,12978440,12982538,12986512,12984467,12990613,12988567,12994589,12996640,12998690,13000740],
 [12976386,12980485,12978441,8788362,12986511,12984466,12988566,12996887,12990492,12992543,12998691,13000868],
 [8782208,12978311,8786312,8788361,12986637,12984340,12990741,12988694,12992666,412065,12998818,13000867],
 [8782210,8786310,12978439,8788363,12986639,12984595,12988564,12992792,12990620,12994720,13010977,12996773],
 [8782211,8786309,8784263,8790412,12982544,12986642,12988692,12992793,12990621,12996767,12994721,12998822]]]
theorem r134_0_0 : cB 13 4 4 1 rg134 rt134 0 0 = true := by decide +kernel
theorem r134_0_1 : cB 13 4 4 1 rg134 rt134 0 1 = true := by decide +kernel
theorem r134_0_2 : cB 13 4 4 1 rg134 rt134 0 2 = true := by decide +kernel
theorem r134_0_3 : cB 13 4 4 1 rg134 rt134 0 3 = true := by decide +kernel
theorem r134_0_4 : cB 13 4 4 1 rg134 rt134 0 4 = true := by decide +kernel
theorem r134_0_5 : cB 13 4 4 1 rg134 rt134 0 5 = true := by decide +kernel
theorem r134_0_6 : cB 13 4 4 1 rg134 rt134 0 6 = true := by decide +kernel
theorem r134_0_7 : cB 13 4 4 1 rg134 rt134 0 7 = true := by decide +kernel
theorem r134_0_8 : cB 13 4 4 1 rg134 rt134 0 8 = true := by decide +kernel
theorem r134_0_9 : cB 13 4 4 1 rg134 rt134 0 9 = true := by decide +kernel
theorem r134_0_10 : cB 13 4 4 1 rg134 rt134 0 10 = true := by decide +kernel
theorem r134_0_11 : cB 13 4 4 1 rg134 rt134 0 11 = true := by decide +kernel
theorem r134_0_12 : cB 13 4 4 1 rg134 rt134 0 12 = true := by decide +kernel
theorem r134_1_0 : cB 13 4 4 1 rg134 rt134 1 0 = true := by decide +kernel
theorem r134_1_1 : cB 13 4 4 1 rg134 rt134 1 1 = true := by decide +kernel
theorem r134_1_2 : cB 13 4 4 1 rg134 rt134 1 2 = true := by decide +kernel
theorem r134_1_3 : cB 13 4 4 1 rg134 rt134 1 3 = true := by decide +kernel
theorem r134_1_4 : cB 13 4 4 1 rg134 rt134 1 4 = true := by decide +kernel
theorem r134_1_5 : cB 13 4 4 1 rg134 rt134 1 5 = true := by decide +kernel
theorem r134_1_6 : cB 13 4 4 1 rg134 rt134 1 6 = true := by decide +kernel
theorem r134_1_7 : cB 13 4 4 1 rg134 rt134 1 7 = true := by decide +kernel
theorem r134_1_8 : cB 13 4 4 1 rg134 rt134 1 8 = true := by decide +kernel
theorem r134_1_9 : cB 13 4 4 1 rg134 rt134 1 9 = true := by decide +kernel
theorem r134_1_10 : cB 13 4 4 1 rg134 rt134 1 10 = true := by decide +kernel
theorem r134_1_11 : cB 13 4 4 1 rg134 rt134 1 11 = true := by decide +kernel
theorem r134_1_12 : cB 13 4 4 1 rg134 rt134 1 12 = true := by decide +kernel
theorem r134_2_0 : cB 13 4 4 1 rg134 rt134 2 0 = true := by decide +kernel
theorem r134_2_1 : cB 13 4 4 1 rg134 rt134 2 1 = true := by decide +kernel
theorem r134_2_2 : cB 13 4 4 1 rg134 rt134 2 2 = true := by decide +kernel
theorem r134_2_3 : cB 13 4 4 1 rg134 rt134 2 3 = true := by decide +kernel
theorem r134_2_4 : cB 13 4 4 1 rg134 rt134 2 4 = true := by decide +kernel
theorem r134_2_5 : cB 13 4 4 1 rg134 rt134 2 5 = true := by decide +kernel
theorem r134_2_6 : cB 13 4 4 1 rg134 rt134 2 6 = true := by decide +kernel
theorem r134_2_7 : cB 13 4 4 1 rg134 rt134 2 7 = true := by decide +kernel
theorem r134_2_8 : cB 13 4 4 1 rg134 rt134 2 8 = true := by decide +kernel
theorem r134_2_9 : cB 13 4 4 1 rg134 rt134 2 9 = true := by decide +kernel
theorem r134_2_10 : cB 13 4 4 1 rg134 rt134 2 10 = true := by decide +kernel
theorem r134_2_11 : cB 13 4 4 1 rg134 rt134 2 11 = true := by decide +kernel
theorem r134_2_12 : cB 13 4 4 1 rg134 rt134 2 12 = true := by decide +kernel
theorem rf134 : allF 13 4 4 1 rg134 rt134 = true :=
 rA (rA r134_2_12 (rA r134_2_11 (rA r134_2_10 (rA r134_2_9 (rA r134_2_8 (rA r134_2_7 (rA r134_2_6 (rA r134_2_5 (rA r134_2_4 (rA r134_2_3 (rA r134_2_2 (rA r134_2_1 (rA r134_2_0 rZ))))))))))))) (rA (rA r134_1_12 (rA r134_1_11 (rA r134_1_10 (rA r134_1_9 (rA r134_1_8 (rA r134_1_7 (rA r134_1_6 (rA r134_1_5 (rA r134_1_4 (rA r134_1_3 (rA r134_1_2 (rA r134_1_1 (rA r134_1_0 rZ))))))))))))) (rA (rA r134_0_12 (rA r134_0_11 (rA r134_0_10 (rA r134_0_9 (rA r134_0_8 (rA r134_0_7 (rA r134_0_6 (rA r134_0_5 (rA r134_0_4 (rA r134_0_3 (rA r134_0_2 (rA r134_0_1 (rA r134_0_0 rZ))))))))))))) rZ))
def rg74 : List (List Nat) := [[0,1,2,3], [0,1,2,4], [0,1,2,5], [0,1,2,6], [0,1,3,4], [0,1,3,5], [0,1,3,6], [0,1,4,5], [0,1,4,6], [0,1,5,6], [0,2,3,4], [0,2,3,5], [0,2,3,6], [0,2,4,5], [0,2,4,6], [0,2,5,6], [0,3,4,5], [0,3,4,6], [0,3,5,6], [0,4,5,6], [1,2,3,4], [1,2,3,5], [1,2,3,6], [1,2,4,5], [1,2,4,6], [1,2,5,6], [1,3,4,5], [1,3,4,6], [1,3,5,6], [1,4,5,6], [2,3,4,5], [2,3,4,6], [2,3,5,6], [2,4,5,6], [3,4,5,6]]
theorem rq74 : cmb 7 4 [] 0 = rg74 := by decide +kernel
def rt74 : List (List (List Nat)) := [
 [[13246464,13244417,13250562,13248515,13242372,13275141,13279238,13277191,13281288,13307913,13240330,13273099,13305868,13283341,13309966,13312015,13316112,13314065,13338642,13340691],
 [13246592,13244545,13250690,13248643,13242500,13275269,13279366,13277319,13281416,13308041,13238292,13271061,13303830,13283351,13309976,13312025,13316122,13314075,13336604,13340701],
 [13246720,13244673,13250818,13248771,13240458,13273227,13279372,13277325,13281422,13305999,13238420,13271189,13303958,13283479,13310104,13312153,13316126,13314079,13336608,13338657],
 [9052544,13242628,13250821,13248774,13240586,13273355,13279500,13275280,13281425,13306002,13238548,13271317,13304086,13283482,13308059,13312156,13316254,13314207,13336736,13338658],
 [9050497,9048452,13250823,13248776,9046410,13273357,13277454,13275408,13281553,13306003,9044372,13271319,13304088,13283610,13308187,13310109,13316382,13314335,13336737,13338786],
 [9050498,9048453,9056647,13246729,9046411,9079181,13277455,9081232,13279506,13306131,9044373,9077143,13304089,9089434,13308188,13310237,9122206,13312288,13336865,13338914],
 [9050499,9048454,9054600,9052553,9046412,9079182,9083279,9081233,9085330,9111955,9044374,9077144,9109913,9087387,9114012,9116061,9120159,9118112,9142689,9144738]],
 [[13901824,13899777,13905922,13903875,13897732,13930501,13934598,13932551,13936648,13963273,13895690,13928459,13961228,13938701,13965326,13967375,13971472,13969425,13994002,13996051,1417635,1415588,1421733,1419686,1446311,1450408,1452457,1448362,1479083,1481132,1444269,1454510,1477039,1487280,1485233,1483186,1509811,1511860,1515957,1513910],
 [13901952,13899905,13906050,13904003,13897860,13930629,13934726,13932679,13936776,13963401,13893652,13926421,13959190,13938711,13965336,13967385,13971482,13969435,13991964,13996061,14000163,13998116,14004261,14002214,14028839,14032936,14034985,14030890,14061611,14063660,1442231,1454520,1475001,1487290,1485243,1483196,1507773,1511870,1515967,1513920],
 [13902080,13900033,13906178,13904131,13895818,13928587,13934732,13932685,13936782,13961359,13893780,13926549,13959318,13938839,13965464,13967513,13971486,13969439,13991968,13994017,14000291,13998244,14004389,14002342,14026797,14032942,14034991,14030896,14059569,14063666,14024759,14037048,14057529,14069818,14067771,14065724,1507777,1509826,1515971,1513924],
 [9707904,13897988,13906181,13904134,13895946,13928715,13934860,13930640,13936785,13961362,13893908,13926677,13959446,13938842,13963419,13967516,13971614,13969567,13992096,13994018,14000419,13996199,14004392,14002345,14026925,14033070,14035119,14028851,14059572,14061621,14024887,14037176,14057657,14069821,14067774,14065727,14090305,14092354,14098499,1511877],
 [9705857,9703812,13906183,13904136,9701770,13928717,13932814,13930768,13936913,13961363,9699732,13926679,13959448,13938970,13963547,13965469,13971742,13969695,13992097,13994146,13998372,13996327,14004394,14002347,14027053,14031024,14035121,14028979,14059700,14061622,14025015,14037178,14057659,14069949,14067902,14063680,14090433,14092482,14096452,14094405],
 [9705858,9703813,9712007,13902089,9701771,9734541,13932815,9736592,13934866,13961491,9699733,9732503,13959449,9744794,13963548,13965597,9777566,13967648,13992225,13994274,13998373,13996328,14004522,14000300,14027054,14031152,14033074,14029107,14059701,14061750,14025016,14037306,14057660,14070077,14065855,14063808,14090561,14092483,14096580,14094533],
 [9705859,9703814,9709960,9707913,9701772,9734542,9738639,9736593,9740690,9767315,9699734,9732504,9765273,9742747,9769372,9771421,9775519,9773472,9798049,9800098,13998374,13996329,14002475,14000428,14027055,14031153,14033202,14029108,14059829,14061878,14025017,14035259,14057788,14068030,14065983,14063936,14090562,14092611,14096708,14094661]],
 [[14557184,14555137,14561282,14559235,14553092,14585861,14589958,14587911,14592008,14618633,14551050,14583819,14616588,14594061,14620686,14622735,14626832,14624785,14649362,14651411,2072995,2070948,2077093,2075046,2101671,2105768,2107817,2103722,2134443,2136492,2099629,2109870,2132399,2142640,2140593,2138546,2165171,2167220,2171317,2169270,2173254,2175303,2201928,2203977,2199882,2208075,2206028,2232653,2234702,2236751,2197840,2230609,2238802,2240851,2263380,2267477,2265430,2271575,2269528,2296153],
 [14557312,14555265,14561410,14559363,14553220,14585989,14590086,14588039,14592136,14618761,14549012,14581781,14614550,14594071,14620696,14622745,14626842,14624795,14647324,14651421,14655523,14653476,14659621,14657574,14684199,14688296,14690345,14686250,14716971,14719020,2097591,2109880,2130361,2142650,2140603,2138556,2163133,2167230,2171327,2169280,2173382,2175431,2202056,2204105,2200010,2208203,2206156,2232781,2234830,2236879,2195802,2228571,2238812,2240861,2261342,2267487,2265440,2271585,2269538,2294115],
 [14557440,14555393,14561538,14559491,14551178,14583947,14590092,14588045,14592142,14616719,14549140,14581909,14614678,14594199,14620824,14622873,14626846,14624799,14647328,14649377,14655651,14653604,14659749,14657702,14682157,14688302,14690351,14686256,14714929,14719026,14680119,14692408,14712889,14725178,14723131,14721084,2163137,2165186,2171331,2169284,14755910,14757959,14784584,14786633,2197968,2208209,2206162,2230739,2234836,2236885,2195930,2228699,2238940,2240989,2261470,2267615,2263396,2271589,2269542,2294119],
 [10363264,14553348,14561541,14559494,14551306,14584075,14590220,14586000,14592145,14616722,14549268,14582037,14614806,14594202,14618779,14622876,14626974,14624927,14647456,14649378,14655779,14651559,14659752,14657705,14682285,14688430,14690479,14684211,14714932,14716981,14680247,14692536,14713017,14725181,14723134,14721087,14745665,14747714,14753859,2167237,14756038,14757962,14782539,14786636,14780496,14790737,14788690,2230742,2232791,2236888,14778458,14811227,14821468,2240992,2261473,2265570,2263524,2271717,2269670,2294120],
 [10361217,10359172,14561543,14559496,10357130,14584077,14588174,14586128,14592273,14616723,10355092,14582039,14614808,14594330,14618907,14620829,14627102,14625055,14647457,14649506,14653732,14651687,14659754,14657707,14682413,14686384,14690481,14684339,14715060,14716982,14680375,14692538,14713019,14725309,14723262,14719040,14745793,14747842,14751812,14749765,14756039,14758090,14782541,14784590,14780624,14790739,14788692,14813270,14815319,2234841,14778586,14811229,14821470,14823520,14844001,2265571,14846052,14854245,2267623,2294248],
 [10361218,10359173,10367367,14557449,10357131,10389901,14588175,10391952,14590226,14616851,10355093,10387863,14614809,10400154,14618908,14620957,10432926,14623008,14647585,14649634,14653733,14651688,14659882,14655660,14682414,14686512,14688434,14684467,14715061,14717110,14680376,14692666,14713020,14725437,14721215,14719168,14745921,14747843,14751940,14749893,14753992,14758091,14782669,14784591,14780625,14790867,14786645,14813398,14815320,14817369,14778587,14811357,14819423,14823648,14844002,14848099,14846180,14852198,14850151,14876776],
 [10361219,10359174,10365320,10363273,10357132,10389902,10393999,10391953,10396050,10422675,10355094,10387864,10420633,10398107,10424732,10426781,10430879,10428832,10453409,10455458,14653734,14651689,14657835,14655788,14682415,14686513,14688562,14684468,14715189,14717238,14680377,14690619,14713148,14723390,14721343,14719296,14745922,14747971,14752068,14750021,14753993,14756044,14782670,14784719,14780626,14788820,14786773,14813399,14815448,14817497,14778588,14811358,14819551,14821601,14844130,14848227,14846181,14852326,14850279,14876904]]]
theorem r74_0_0 : cB 7 4 20 10 rg74 rt74 0 0 = true := by decide +kernel
theorem r74_0_1 : cB 7 4 20 10 rg74 rt74 0 1 = true := by decide +kernel
theorem r74_0_2 : cB 7 4 20 10 rg74 rt74 0 2 = true := by decide +kernel
theorem r74_0_3 : cB 7 4 20 10 rg74 rt74 0 3 = true := by decide +kernel
theorem r74_0_4 : cB 7 4 20 10 rg74 rt74 0 4 = true := by decide +kernel
theorem r74_0_5 : cB 7 4 20 10 rg74 rt74 0 5 = true := by decide +kernel
theorem r74_0_6 : cB 7 4 20 10 rg74 rt74 0 6 = true := by decide +kernel
theorem r74_1_0 : cB 7 4 20 10 rg74 rt74 1 0 = true := by decide +kernel
theorem r74_1_1 : cB 7 4 20 10 rg74 rt74 1 1 = true := by decide +kernel
theorem r74_1_2 : cB 7 4 20 10 rg74 rt74 1 2 = true := by decide +kernel
theorem r74_1_3 : cB 7 4 20 10 rg74 rt74 1 3 = true := by decide +kernel
theorem r74_1_4 : cB 7 4 20 10 rg74 rt74 1 4 = true := by decide +kernel
theorem r74_1_5 : cB 7 4 20 10 rg74 rt74 1 5 = true := by decide +kernel
theorem r74_1_6 : cB 7 4 20 10 rg74 rt74 1 6 = true := by decide +kernel
theorem r74_2_0 : cB 7 4 20 10 rg74 rt74 2 0 = true := by decide +kernel
theorem r74_2_1 : cB 7 4 20 10 rg74 rt74 2 1 = true := by decide +kernel
theorem r74_2_2 : cB 7 4 20 10 rg74 rt74 2 2 = true := by decide +kernel
theorem r74_2_3 : cB 7 4 20 10 rg74 rt74 2 3 = true := by decide +kernel
theorem r74_2_4 : cB 7 4 20 10 rg74 rt74 2 4 = true := by decide +kernel
theorem r74_2_5 : cB 7 4 20 10 rg74 rt74 2 5 = true := by decide +kernel
theorem r74_2_6 : cB 7 4 20 10 rg74 rt74 2 6 = true := by decide +kernel
theorem rf74 : allF 7 4 20 10 rg74 rt74 = true :=
 rA (rA r74_2_6 (rA r74_2_5 (rA r74_2_4 (rA r74_2_3 (rA r74_2_2 (rA r74_2_1 (rA r74_2_0 rZ))))))) (rA (rA r74_1_6 (rA r74_1_5 (rA r74_1_4 (rA r74_1_3 (rA r74_1_2 (rA r74_1_1 (rA r74_1_0 rZ))))))) (rA (rA r74_0_6 (rA r74_0_5 (rA r74_0_4 (rA r74_0_3 (rA r74_0_2 (rA r74_0_1 (rA r74_0_0 rZ))))))) rZ))
def rg86 : List (List Nat) := [[0,1,2,3,4,5], [0,1,2,3,4,6], [0,1,2,3,4,7], [0,1,2,3,5,6], [0,1,2,3,5,7], [0,1,2,3,6,7], [0,1,2,4,5,6], [0,1,2,4,5,7], [0,1,2,4,6,7], [0,1,2,5,6,7], [0,1,3,4,5,6], [0,1,3,4,5,7], [0,1,3,4,6,7], [0,1,3,5,6,7], [0,1,4,5,6,7], [0,2,3,4,5,6], [0,2,3,4,5,7], [0,2,3,4,6,7], [0,2,3,5,6,7], [0,2,4,5,6,7], [0,3,4,5,6,7], [1,2,3,4,5,6], [1,2,3,4,5,7], [1,2,3,4,6,7], [1,2,3,5,6,7], [1,2,4,5,6,7], [1,3,4,5,6,7], [2,3,4,5,6,7]]
theorem rq86 : cmb 8 6 [] 0 = rg86 := by decide +kernel
def rt86 : List (List (List Nat)) := [
 [[5650427904,5650425857,5650458626,5650423811,5650456580,5650489349,5650421766,5650454535,5650487304,5650520073,5650419722,5650452491,5650485260,5650518029,5650550798,5650417679,5650450448,5650483217,5650515986,5650548755,5650581524],
 [5650428032,5650425985,5650458754,5650423939,5650456708,5650489477,5650421894,5650454663,5650487432,5650520201,5650419850,5650452619,5650485388,5650518157,5650550926,5650415637,5650448406,5650481175,5650513944,5650546713,5650579482],
 [5650428160,5650426113,5650458882,5650424067,5650456836,5650489605,5650422022,5650454791,5650487560,5650520329,5650417807,5650450576,5650483345,5650516114,5650548883,5650415765,5650448534,5650481303,5650514072,5650546841,5650579483],
 [5646233984,5646231937,5646264706,5646229891,5646262660,5646295429,5650419978,5650452747,5650485516,5650518285,5650417935,5650450704,5650483473,5650516242,5650548884,5650415893,5650448662,5650481431,5650514200,5650546842,5650579611],
 [5579125248,5579123201,5579155970,5646227846,5646260615,5646293384,5646225802,5646258571,5646291340,5650518286,5646223759,5646256528,5646289297,5650516243,5650549012,5646221717,5646254486,5646287255,5650514201,5650546970,5650579739],
 [4505383552,5579121155,5579153924,5579119110,5579151879,5646293385,5579117066,5579149835,5646291341,5646324110,5579115023,5579147792,5646289298,5646322067,5646354836,5579112981,5579145750,5646287256,5646320025,5646352794,5646385563],
 [4505381505,4505379459,5579153925,4505377414,5579151880,5579184649,4505375370,5579149836,5579182605,5579215374,4505373327,5579147793,5579180562,5579213331,5579246100,4505371285,5579145751,5579178520,5579211289,5579244058,5579276827],
 [4505381506,4505379460,4505412229,4505377415,4505410184,4505442953,4505375371,4505408140,4505440909,4505473678,4505373328,4505406097,4505438866,4505471635,4505504404,4505371286,4505404055,4505436824,4505469593,4505502362,4505535131]],
 [[5651116032,5651113985,5651146754,5651111939,5651144708,5651177477,5651109894,5651142663,5651175432,5651208201,5651107850,5651140619,5651173388,5651206157,5651238926,5651105807,5651138576,5651171345,5651204114,5651236883,5651269652,4497685148,4497717917,4497715870,4497750687,4497748640,4497746593,4497783458,4497781411,4497779364,4497777317,4497816230,4497814183,4497812136,4497810089,4497808042,4497849003,4497846956,4497844909,4497842862,4497840815,4497838768],
 [5651116160,5651114113,5651146882,5651112067,5651144836,5651177605,5651110022,5651142791,5651175560,5651208329,5651107978,5651140747,5651173516,5651206285,5651239054,5651103765,5651136534,5651169303,5651202072,5651234841,5651267610,5651118108,5651150877,5651148830,5651183647,5651181600,5651179553,5651216418,5651214371,5651212324,5651210277,5651249190,5651247143,5651245096,5651243049,5651241002,4497849009,4497846962,4497844915,4497842868,4497840821,4497838774],
 [5651116288,5651114241,5651147010,5651112195,5651144964,5651177733,5651110150,5651142919,5651175688,5651208457,5651105935,5651138704,5651171473,5651204242,5651237011,5651103893,5651136662,5651169431,5651202200,5651234969,5651267611,5651118236,5651151005,5651148958,5651183775,5651181728,5651179681,5651216546,5651214499,5651212452,5651210405,5651249195,5651247148,5651245101,5651243054,5651241007,5651281969,5651279922,5651277875,5651275828,5651273781,4497836727],
 [5646922112,5646920065,5646952834,5646918019,5646950788,5646983557,5651108106,5651140875,5651173644,5651206413,5651106063,5651138832,5651171601,5651204370,5651237012,5651104021,5651136790,5651169559,5651202328,5651234970,5651267739,5651118364,5651151133,5651149086,5651183903,5651181856,5651179809,5651216550,5651214503,5651212456,5651210409,5651249323,5651247276,5651245229,5651243182,5651238960,5651282097,5651280050,5651278003,5651275956,5651271734,5651269687],
 [5579813376,5579811329,5579844098,5646915974,5646948743,5646981512,5646913930,5646946699,5646979468,5651206414,5646911887,5646944656,5646977425,5651204371,5651237140,5646909845,5646942614,5646975383,5651202329,5651235098,5651267867,5646924188,5646956957,5646954910,5651183906,5651181859,5651179812,5651216678,5651214631,5651212584,5651208362,5651249451,5651247404,5651245357,5651241135,5651239088,5651282225,5651280178,5651278131,5651273909,5651271862,5651269815],
 [4506071680,5579809283,5579842052,5579807238,5579840007,5646981513,5579805194,5579837963,5646979469,5647012238,5579803151,5579835920,5646977426,5647010195,5647042964,5579801109,5579833878,5646975384,5647008153,5647040922,5647073691,5579815452,5646956959,5646954912,5646989730,5646987683,5651177765,5647022502,5647020455,5651210537,5651208490,5647055275,5647053228,5651243310,5651241263,5651239216,5647088049,5647086002,5651276084,5651274037,5651271990,5651269943],
 [4506069633,4506067587,5579842053,4506065542,5579840008,5579872777,4506063498,5579837964,5579870733,5579903502,4506061455,5579835921,5579868690,5579901459,5579934228,4506059413,5579833879,5579866648,5579899417,5579932186,5579964955,5579815453,5579848223,5646952865,5579880994,5646985636,5646983589,5579913766,5647018408,5647016361,5647014314,5579946539,5647051181,5647049134,5647047087,5647045040,5579979313,5647083955,5647081908,5647079861,5647077814,5647075767],
 [4506069634,4506067588,4506100357,4506065543,4506098312,4506131081,4506063499,4506096268,4506129037,4506161806,4506061456,4506094225,4506126994,4506159763,4506192532,4506059414,4506092183,4506124952,4506157721,4506190490,4506223259,5579813406,5579846176,5579844129,5579878947,5579876900,5579874853,5579911719,5579909672,5579907625,5579905578,5579944492,5579942445,5579940398,5579938351,5579936304,5579977266,5579975219,5579973172,5579971125,5579969078,5579967031]],
 [[5651804160,5651802113,5651834882,5651800067,5651832836,5651865605,5651798022,5651830791,5651863560,5651896329,5651795978,5651828747,5651861516,5651894285,5651927054,5651793935,5651826704,5651859473,5651892242,5651925011,5651957780,4498373276,4498406045,4498403998,4498438815,4498436768,4498434721,4498471586,4498469539,4498467492,4498465445,4498504358,4498502311,4498500264,4498498217,4498496170,4498537131,4498535084,4498533037,4498530990,4498528943,4498526896,5572309560,5572307513,5572340282,5572305467,5572338236,5572371005,5572303422,5572336191,5572368960,5572401729,5572301378,5572334147,5572366916,5572399685,5572432454,5572299335,5572332104,5572364873,5572397642,5572430411,5572463180],
 [5651804288,5651802241,5651835010,5651800195,5651832964,5651865733,5651798150,5651830919,5651863688,5651896457,5651796106,5651828875,5651861644,5651894413,5651927182,5651791893,5651824662,5651857431,5651890200,5651922969,5651955738,5651806236,5651839005,5651836958,5651871775,5651869728,5651867681,5651904546,5651902499,5651900452,5651898405,5651937318,5651935271,5651933224,5651931177,5651929130,4498537137,4498535090,4498533043,4498530996,4498528949,4498526902,4498567864,4498565817,4498598586,4498563771,4498596540,4498629309,4498561726,4498594495,4498627264,4498660033,4498559682,4498592451,4498625220,4498657989,4498690758,5572297293,5572330062,5572362831,5572395600,5572428369,5572461138],
 [5651804416,5651802369,5651835138,5651800323,5651833092,5651865861,5651798278,5651831047,5651863816,5651896585,5651794063,5651826832,5651859601,5651892370,5651925139,5651792021,5651824790,5651857559,5651890328,5651923097,5651955739,5651806364,5651839133,5651837086,5651871903,5651869856,5651867809,5651904674,5651902627,5651900580,5651898533,5651937323,5651935276,5651933229,5651931182,5651929135,5651970097,5651968050,5651966003,5651963956,5651961909,4498524855,5652000824,5651998777,5652031546,5651996731,5652029500,5652062269,5651994686,5652027455,5652060224,5652092993,4498557639,4498590408,4498623177,4498655946,4498688715,4498555597,4498588366,4498621135,4498653904,4498686673,5572461139],
 [5647610240,5647608193,5647640962,5647606147,5647638916,5647671685,5651796234,5651829003,5651861772,5651894541,5651794191,5651826960,5651859729,5651892498,5651925140,5651792149,5651824918,5651857687,5651890456,5651923098,5651955867,5651806492,5651839261,5651837214,5651872031,5651869984,5651867937,5651904678,5651902631,5651900584,5651898537,5651937451,5651935404,5651933357,5651931310,5651927088,5651970225,5651968178,5651966131,5651964084,5651959862,5651957815,5652000952,5651998905,5652031674,5651996859,5652029628,5652062397,5651992642,5652025411,5652058180,5652090949,5651990599,5652023368,5652056137,5652088906,4498688716,5651988557,5652021326,5652054095,5652086864,4498686674,4498719443],
 [5580501504,5580499457,5580532226,5647604102,5647636871,5647669640,5647602058,5647634827,5647667596,5651894542,5647600015,5647632784,5647665553,5651892499,5651925268,5647597973,5647630742,5647663511,5651890457,5651923226,5651955995,5647612316,5647645085,5647643038,5651872034,5651869987,5651867940,5651904806,5651902759,5651900712,5651896490,5651937579,5651935532,5651933485,5651929263,5651927216,5651970353,5651968306,5651966259,5651962037,5651959990,5651957943,5652001080,5651999033,5652031802,5651994814,5652027583,5652060352,5651992770,5652025539,5652058308,5652090950,5651990727,5652023496,5652056265,5652088907,5652121676,5651988685,5652021454,5652054223,5652086865,5652119634,5652152403],
 [4506759808,5580497411,5580530180,5580495366,5580528135,5647669641,5580493322,5580526091,5647667597,5647700366,5580491279,5580524048,5647665554,5647698323,5647731092,5580489237,5580522006,5647663512,5647696281,5647729050,5647761819,5580503580,5647645087,5647643040,5647677858,5647675811,5651865893,5647710630,5647708583,5651898665,5651896618,5647743403,5647741356,5651931438,5651929391,5651927344,5647776177,5647774130,5651964212,5651962165,5651960118,5651958071,5647806904,5651996987,5652029756,5651994942,5652027711,5652060353,5651992898,5652025667,5652058309,5652091078,5651990855,5652023624,5652056266,5652089035,5652121804,5651988813,5652021582,5652054224,5652086993,5652119762,5652152531],
 [4506757761,4506755715,5580530181,4506753670,5580528136,5580560905,4506751626,5580526092,5580558861,5580591630,4506749583,5580524049,5580556818,5580589587,5580622356,4506747541,5580522007,5580554776,5580587545,5580620314,5580653083,5580503581,5580536351,5647640993,5580569122,5647673764,5647671717,5580601894,5647706536,5647704489,5647702442,5580634667,5647739309,5647737262,5647735215,5647733168,5580667441,5647772083,5647770036,5647767989,5647765942,5647763895,5647804857,5647802811,5652029757,5647800766,5652027712,5652060481,5647798722,5652025668,5652058437,5652091206,5647796679,5652023625,5652056394,5652089163,5652121932,5647794637,5652021583,5652054352,5652087121,5652119890,5652152659],
 [4506757762,4506755716,4506788485,4506753671,4506786440,4506819209,4506751627,4506784396,4506817165,4506849934,4506749584,4506782353,4506815122,4506847891,4506880660,4506747542,4506780311,4506813080,4506845849,4506878618,4506911387,5580501534,5580534304,5580532257,5580567075,5580565028,5580562981,5580599847,5580597800,5580595753,5580593706,5580632620,5580630573,5580628526,5580626479,5580624432,5580665394,5580663347,5580661300,5580659253,5580657206,5580655159,5647804858,5647802812,5647835581,5647800767,5647833536,5647866305,5647798723,5647831492,5647864261,5647897030,5647796680,5647829449,5647862218,5647894987,5647927756,5647794638,5647827407,5647860176,5647892945,5647925714,5647958483]]]
theorem r86_0_0 : cB 8 6 21 15 rg86 rt86 0 0 = true := by decide +kernel
theorem r86_0_1 : cB 8 6 21 15 rg86 rt86 0 1 = true := by decide +kernel
theorem r86_0_2 : cB 8 6 21 15 rg86 rt86 0 2 = true := by decide +kernel
theorem r86_0_3 : cB 8 6 21 15 rg86 rt86 0 3 = true := by decide +kernel
theorem r86_0_4 : cB 8 6 21 15 rg86 rt86 0 4 = true := by decide +kernel
theorem r86_0_5 : cB 8 6 21 15 rg86 rt86 0 5 = true := by decide +kernel
theorem r86_0_6 : cB 8 6 21 15 rg86 rt86 0 6 = true := by decide +kernel
theorem r86_0_7 : cB 8 6 21 15 rg86 rt86 0 7 = true := by decide +kernel
theorem r86_1_0 : cB 8 6 21 15 rg86 rt86 1 0 = true := by decide +kernel
theorem r86_1_1 : cB 8 6 21 15 rg86 rt86 1 1 = true := by decide +kernel
theorem r86_1_2 : cB 8 6 21 15 rg86 rt86 1 2 = true := by decide +kernel
theorem r86_1_3 : cB 8 6 21 15 rg86 rt86 1 3 = true := by decide +kernel
theorem r86_1_4 : cB 8 6 21 15 rg86 rt86 1 4 = true := by decide +kernel
theorem r86_1_5 : cB 8 6 21 15 rg86 rt86 1 5 = true := by decide +kernel
theorem r86_1_6 : cB 8 6 21 15 rg86 rt86 1 6 = true := by decide +kernel
theorem r86_1_7 : cB 8 6 21 15 rg86 rt86 1 7 = true := by decide +kernel
theorem r86_2_0 : cB 8 6 21 15 rg86 rt86 2 0 = true := by decide +kernel
theorem r86_2_1 : cB 8 6 21 15 rg86 rt86 2 1 = true := by decide +kernel
theorem r86_2_2 : cB 8 6 21 15 rg86 rt86 2 2 = true := by decide +kernel
theorem r86_2_3 : cB 8 6 21 15 rg86 rt86 2 3 = true := by decide +kernel
theorem r86_2_4 : cB 8 6 21 15 rg86 rt86 2 4 = true := by decide +kernel
theorem r86_2_5 : cB 8 6 21 15 rg86 rt86 2 5 = true := by decide +kernel
theorem r86_2_6 : cB 8 6 21 15 rg86 rt86 2 6 = true := by decide +kernel
theorem r86_2_7 : cB 8 6 21 15 rg86 rt86 2 7 = true := by decide +kernel
theorem rf86 : allF 8 6 21 15 rg86 rt86 = true :=
 rA (rA r86_2_7 (rA r86_2_6 (rA r86_2_5 (rA r86_2_4 (rA r86_2_3 (rA r86_2_2 (rA r86_2_1 (rA r86_2_0 rZ)))))))) (rA (rA r86_1_7 (rA r86_1_6 (rA r86_1_5 (rA r86_1_4 (rA r86_1_3 (rA r86_1_2 (rA r86_1_1 (rA r86_1_0 rZ)))))))) (rA (rA r86_0_7 (rA r86_0_6 (rA r86_0_5 (rA r86_0_4 (rA r86_0_3 (rA r86_0_2 (rA r86_0_1 (rA r86_0_0 rZ)))))))) rZ))
end Go.Proofs.YtdcijljfgcjelaaGreat
namespace Go.Proofs.YtdcijljfgcjelaaGreat
set_option maxRecDepth 20000
open Go.RowKit
attribute [local irreducible] Calls
section
variable {dk wd tl D v k r lam : Nat} (w : World)
theorem rp_n (hch : ∀ w, Calls Tryz.prog 18 #[.int .u8 dk, .int .u8 wd, .int .u8 tl, .int .u8 39] w fun e w' => e = .returned (.tuple #[.agg #[iv 0, .slice none 0 0, iv 0, iv 0], .bool false]) ∧ Below w.heap.size w w') :
   Calls Tryz.prog 4 #[.int .u8 dk, .int .u8 wd, .int .u8 tl, .int .u8 D] w fun en w' => en = .returned (.bool true) ∧ Below w.heap.size w w' := by
 refine calls_wc (args := [.int .u8 dk, .int .u8 wd, .int .u8 tl, .int .u8 D]) [8] [] Tryz.func4 rfl Tryz.ntmps4 rfl rfl rfl rfl (H.refl _) ?_
 refine uS rfl fun K hK => ?_
 refine jm rfl rfl ?_
 refine wN hK ?_; clear hK
 refine WC.seq fun K hK => ?_
 refine uS rfl fun K hK => ?_
 refine WL.want rfl (WL1.callP rfl rfl rfl .nil (fun w hw => awake_top w) ?_)
 refine jm rfl rfl ?_
 refine wN hK ?_; clear hK
 refine uF rfl rfl ?_
 refine WC.skip ?_
 (refine hK _ _ ?_; clear hK)
 refine uS rfl fun K hK => ?_
 iterate 3 refine jm rfl rfl ?_
 refine WL.want rfl (WL1.callP rfl rfl rfl (.cons (.mk (v := .int _ _) rfl rfl) (.cons (.mk (v := .int _ _) rfl rfl) (.cons (.mk (v := .int _ _) rfl rfl) (.cons (.mk (v := .int _ _) rfl rfl) .nil)))) (fun w hw => hch w) ?_)
 iterate 3 refine jm rfl rfl ?_
 refine WL.want rfl (WL1.alloc rfl rfl rfl rfl (fun b9 => ?_))
 refine WL.want rfl (WL1.storeAll rfl rfl (.mk rfl rfl) (.mk rfl rfl) rfl (all1 rfl) (by first | rfl | (simp [Blk.len]; done)) (.head) ?_)
 refine jm rfl rfl ?_
 refine wN hK ?_; clear hK
 refine WC.seq fun K hK => ?_
 refine uS rfl fun K hK => ?_
 iterate 2 refine jm rfl rfl ?_
 refine wN hK ?_; clear hK
 refine uT rfl rfl ?_
 refine uS rfl fun K hK => ?_
 refine jm rfl rfl ?_
 refine wN hK ?_; clear hK
 refine WC.ret ?_
 exact fun w' hw' => ⟨rfl, hw'.1⟩
set_option maxHeartbeats 4000000 in
theorem rp_skip {t : Nat} {gs : List (List Nat)} (hch : ∀ w, Calls Tryz.prog 18 #[.int .u8 dk, .int .u8 wd, .int .u8 tl, .int .u8 39] w fun e w' => ∃ u M, e = .returned u ∧ H w M w' ∧ ∃ A c rs, ils rs = gs ∧ u = .tuple #[layV v A c rs t 39, .bool true] ∧ M = dsgA A c rs)
   (hL : Lay v k r lam gs t 39) (hs : k = v ∨ 40 < gs.length) :
   Calls Tryz.prog 4 #[.int .u8 dk, .int .u8 wd, .int .u8 tl, .int .u8 D] w fun en w' => en = .returned (.bool true) ∧ Below w.heap.size w w' := by
 have hn4 := hL.d.n4
 by_cases hkv : k = v
 · refine calls_wc (args := [.int .u8 dk, .int .u8 wd, .int .u8 tl, .int .u8 D]) [8] [] Tryz.func4 rfl Tryz.ntmps4 rfl rfl rfl rfl (H.refl _) ?_
   refine uS rfl fun K hK => ?_
   refine jm rfl rfl ?_
   refine wN hK ?_; clear hK
   refine WC.seq fun K hK => ?_
   refine uS rfl fun K hK => ?_
   refine WL.want rfl (WL1.callP rfl rfl rfl .nil (fun w hw => awake_top w) ?_)
   refine jm rfl rfl ?_
   refine wN hK ?_; clear hK
   refine uF rfl rfl ?_
   refine WC.skip ?_
   (refine hK _ _ ?_; clear hK)
   refine uS rfl fun K hK => ?_
   iterate 3 refine jm rfl rfl ?_
   (refine WL.want rfl (WL1.callN rfl rfl rfl (.cons (.mk (v := .int _ _) rfl rfl) (.cons (.mk (v := .int _ _) rfl rfl) (.cons (.mk (v := .int _ _) rfl rfl) (.cons (.mk (v := .int _ _) rfl rfl) .nil)))) (fun w hw => hch w) ?_); rintro _ _ ⟨A, c, rs, hgs, rfl, rfl⟩)
   iterate 3 refine jm rfl rfl ?_
   refine WL.want rfl (WL1.alloc rfl rfl rfl rfl (fun b9 => ?_))
   refine WL.want rfl (WL1.storeAll rfl rfl (.mk rfl rfl) (.mk rfl rfl) rfl (all1 rfl) (by first | rfl | (simp [Blk.len]; done)) (.head) ?_)
   refine jm rfl rfl ?_
   refine wN hK ?_; clear hK
   refine WC.seq fun K hK => ?_
   subst hgs
   obtain ⟨A0, c0, e0, hk0, hn1⟩ := row0 hL.d
   have g0 := irowv_get (rs := rs) (k := 0) (by omega)
   rw [e0] at g0
   unfold IRow.v at g0
   rw [hk0] at g0
   have hRv := fun w' h => rvalid_d (A := A) (c := c) w' hL h
   refine uS rfl fun K hK => ?_
   iterate 2 refine jm rfl rfl ?_
   refine wN hK ?_; clear hK
   refine uF rfl rfl ?_
   refine WC.skip ?_
   (refine hK _ _ ?_; clear hK)
   refine WC.seq fun K hK => ?_
   refine uS rfl fun K hK => ?_
   refine wG rfl rfl (g_loadA rfl (.mk rfl rfl) rfl rfl (rdr_pt (.head _) (fun j u h => by simpa using h))) ?_
   refine WL.want rfl (WL1.callP rfl rfl rfl (.cons (.mk (v := .agg _) rfl rfl) .nil) (fun w hw => hRv w (IMat.of_rows hw (by repeat constructor) (by repeat constructor) rfl)) ?_)
   refine jm rfl rfl ?_
   refine wN hK ?_; clear hK
   refine uF rfl rfl ?_
   refine WC.skip ?_
   (refine hK _ _ ?_; clear hK)
   refine WC.seq fun K hK => ?_
   refine WC.seq fun K hK => ?_
   refine WC.quiet rfl (by kernel_rfl) (by decide +kernel) ?_
   refine ya 0 rfl rfl rfl rfl ?_
   refine ya 1 rfl rfl rfl rfl ?_
   refine yl rfl rfl rfl (rd_pt (.head _) rfl) ?_
   refine WQ.want rfl (WQ1.give rfl (g_indexAddr (sz := 1) rfl (.mk rfl rfl) (.mk rfl rfl) rfl rfl (show _ = ((0 : Nat) : Int) from rfl) (by omega) (fun w hw => vec_some hw (.tail _ (.head _)) (by omega))) ?_)
   refine yl rfl rfl rfl (rd_vec (by repeat constructor) g0) ?_
   refine yn rfl rfl rfl ?_
   iterate 2 refine ya 0 rfl rfl rfl rfl ?_
   refine yl rfl rfl rfl (rd_pt (.head _) rfl) ?_
   refine yt rfl rfl (by omega) ?_
   refine ym rfl rfl ?_
   iterate 5 refine uz rfl rfl ?_
   refine ym rfl rfl ?_
   refine WQ.nil ?_
   (refine hK _ _ ?_; clear hK)
   refine uT rfl rfl ?_
   refine uS rfl fun K hK => ?_
   refine jm rfl rfl ?_
   refine wN hK ?_; clear hK
   refine WC.ret ?_
   all_goals exact fun w' hw' => ⟨rfl, hw'.1⟩
 · refine calls_wc (args := [.int .u8 dk, .int .u8 wd, .int .u8 tl, .int .u8 D]) [8] [] Tryz.func4 rfl Tryz.ntmps4 rfl rfl rfl rfl (H.refl _) ?_
   refine uS rfl fun K hK => ?_
   refine jm rfl rfl ?_
   refine wN hK ?_; clear hK
   refine WC.seq fun K hK => ?_
   refine uS rfl fun K hK => ?_
   refine WL.want rfl (WL1.callP rfl rfl rfl .nil (fun w hw => awake_top w) ?_)
   refine jm rfl rfl ?_
   refine wN hK ?_; clear hK
   refine uF rfl rfl ?_
   refine WC.skip ?_
   (refine hK _ _ ?_; clear hK)
   refine uS rfl fun K hK => ?_
   iterate 3 refine jm rfl rfl ?_
   (refine WL.want rfl (WL1.callN rfl rfl rfl (.cons (.mk (v := .int _ _) rfl rfl) (.cons (.mk (v := .int _ _) rfl rfl) (.cons (.mk (v := .int _ _) rfl rfl) (.cons (.mk (v := .int _ _) rfl rfl) .nil)))) (fun w hw => hch w) ?_); rintro _ _ ⟨A, c, rs, hgs, rfl, rfl⟩)
   iterate 3 refine jm rfl rfl ?_
   refine WL.want rfl (WL1.alloc rfl rfl rfl rfl (fun b9 => ?_))
   refine WL.want rfl (WL1.storeAll rfl rfl (.mk rfl rfl) (.mk rfl rfl) rfl (all1 rfl) (by first | rfl | (simp [Blk.len]; done)) (.head) ?_)
   refine jm rfl rfl ?_
   refine wN hK ?_; clear hK
   refine WC.seq fun K hK => ?_
   subst hgs
   have hgl : (ils rs).length = rs.length := List.length_map _
   rw [hgl] at hs hn4
   obtain ⟨A0, c0, e0, hk0, hn1⟩ := row0 hL.d
   have g0 := irowv_get (rs := rs) (k := 0) (by omega)
   rw [e0] at g0
   unfold IRow.v at g0
   rw [hk0] at g0
   have hRv := fun w' h => rvalid_d (A := A) (c := c) w' hL h
   refine uS rfl fun K hK => ?_
   iterate 2 refine jm rfl rfl ?_
   refine wN hK ?_; clear hK
   refine uF rfl rfl ?_
   refine WC.skip ?_
   (refine hK _ _ ?_; clear hK)
   refine WC.seq fun K hK => ?_
   refine uS rfl fun K hK => ?_
   refine wG rfl rfl (g_loadA rfl (.mk rfl rfl) rfl rfl (rdr_pt (.head _) (fun j u h => by simpa using h))) ?_
   refine WL.want rfl (WL1.callP rfl rfl rfl (.cons (.mk (v := .agg _) rfl rfl) .nil) (fun w hw => hRv w (IMat.of_rows hw (by repeat constructor) (by repeat constructor) rfl)) ?_)
   refine jm rfl rfl ?_
   refine wN hK ?_; clear hK
   refine uF rfl rfl ?_
   refine WC.skip ?_
   (refine hK _ _ ?_; clear hK)
   refine WC.seq fun K hK => ?_
   refine WC.seq fun K hK => ?_
   refine WC.quiet rfl (by kernel_rfl) (by decide +kernel) ?_
   refine ya 0 rfl rfl rfl rfl ?_
   refine ya 1 rfl rfl rfl rfl ?_
   refine yl rfl rfl rfl (rd_pt (.head _) rfl) ?_
   refine WQ.want rfl (WQ1.give rfl (g_indexAddr (sz := 1) rfl (.mk rfl rfl) (.mk rfl rfl) rfl rfl (show _ = ((0 : Nat) : Int) from rfl) (by omega) (fun w hw => vec_some hw (.tail _ (.head _)) (by omega))) ?_)
   refine yl rfl rfl rfl (rd_vec (by repeat constructor) g0) ?_
   refine yn rfl rfl rfl ?_
   iterate 2 refine ya 0 rfl rfl rfl rfl ?_
   refine yl rfl rfl rfl (rd_pt (.head _) rfl) ?_
   refine yf rfl rfl (by omega) ?_
   refine ym rfl rfl ?_
   refine Za 0 rfl rfl rfl rfl ?_
   refine Za 1 rfl rfl rfl rfl ?_
   refine Zl rfl rfl rfl (rd_pt (.head _) rfl) ?_
   refine Zn rfl rfl rfl ?_
   refine Zt rfl rfl (by omega) ?_
   refine ym rfl rfl ?_
   refine WQ.nil ?_
   (refine hK _ _ ?_; clear hK)
   refine uT rfl rfl ?_
   refine uS rfl fun K hK => ?_
   refine jm rfl rfl ?_
   refine wN hK ?_; clear hK
   refine WC.ret ?_
   all_goals exact fun w' hw' => ⟨rfl, hw'.1⟩
end
def r39B (v k r lam : Nat) (gs : List (List Nat)) : Bool := dsgB v k gs && balB v gs r lam && Nat.ble 4 k && Nat.ble k 6 && Nat.ble (3 * gs.length) 4096 && Nat.ble (3 * gs.length * (k - 3)) 65536 && Nat.ble (3 * r + 39) 65536
def R39 (v k r lam : Nat) (gs : List (List Nat)) : Prop := ∀ t, 1 ≤ t → t ≤ 3 → Lay v k r lam gs t 39
theorem r39B_spec {v k r lam : Nat} {gs : List (List Nat)} (h : r39B v k r lam gs = true) : R39 v k r lam gs := by
 unfold r39B at h
 simp only [Bool.and_eq_true] at h
 obtain ⟨⟨⟨⟨⟨⟨h1, h2⟩, h4⟩, h5⟩, h6⟩, h7⟩, h8⟩ := h
 have a4 := Nat.le_of_ble_eq_true h4
 have a5 := Nat.le_of_ble_eq_true h5
 have a6 := Nat.le_of_ble_eq_true h6
 have a7 := Nat.le_of_ble_eq_true h7
 have a8 := Nat.le_of_ble_eq_true h8
 refine fun t t1 t3 => ⟨dsgB_spec h1, balB_spec h2, a4, by omega, t1, by omega, by omega, ?_, ?_, ?_⟩
 · exact Nat.le_trans (Nat.mul_le_mul_right _ t3) a6
 · exact Nat.le_trans (Nat.mul_le_mul_right _ (Nat.mul_le_mul_right _ t3)) a7
 · have := Nat.mul_le_mul_right r t3
   omega
theorem wb54 : R39 5 4 4 3 (cmb 5 4 [] 0) := r39B_spec (by decide +kernel)
theorem wb55 : R39 5 5 1 1 (cmb 5 5 [] 0) := r39B_spec (by decide +kernel)
theorem wb64 : R39 6 4 10 6 (cmb 6 4 [] 0) := r39B_spec (by decide +kernel)
theorem wb65 : R39 6 5 5 4 (cmb 6 5 [] 0) := r39B_spec (by decide +kernel)
theorem wb66 : R39 6 6 1 1 (cmb 6 6 [] 0) := r39B_spec (by decide +kernel)
theorem wb74 : R39 7 4 20 10 (cmb 7 4 [] 0) := r39B_spec (by decide +kernel)
theorem wb75 : R39 7 5 15 10 (cmb 7 5 [] 0) := r39B_spec (by decide +kernel)
theorem wb76 : R39 7 6 6 5 (cmb 7 6 [] 0) := r39B_spec (by decide +kernel)
theorem wb84 : R39 8 4 35 15 (cmb 8 4 [] 0) := r39B_spec (by decide +kernel)
theorem wb85 : R39 8 5 35 20 (cmb 8 5 [] 0) := r39B_spec (by decide +kernel)
theorem wb86 : R39 8 6 21 15 (cmb 8 6 [] 0) := r39B_spec (by decide +kernel)
theorem wb94 : R39 9 4 56 21 (cmb 9 4 [] 0) := r39B_spec (by decide +kernel)
theorem wb95 : R39 9 5 70 35 (cmb 9 5 [] 0) := r39B_spec (by decide +kernel)
theorem wb96 : R39 9 6 56 35 (cmb 9 6 [] 0) := r39B_spec (by decide +kernel)
theorem wb134 : R39 13 4 4 1 plG := r39B_spec (by decide +kernel)
theorem rc (v k q : Nat) (h : (cmpB v k && Nat.ble 5 v && Nat.ble v 13 && Nat.ble k 6 && Nat.ble q 4096 && ends v k q (List.range k)) = true) : RCmp v k q := rcmp_spec h
theorem rc54 : RCmp 5 4 4 := rc _ _ _ (by decide +kernel)
theorem rc55 : RCmp 5 5 0 := rc _ _ _ (by decide +kernel)
theorem rc64 : RCmp 6 4 14 := rc _ _ _ (by decide +kernel)
theorem rc65 : RCmp 6 5 5 := rc _ _ _ (by decide +kernel)
theorem rc66 : RCmp 6 6 0 := rc _ _ _ (by decide +kernel)
theorem rc74 : RCmp 7 4 34 := rc _ _ _ (by decide +kernel)
theorem rc75 : RCmp 7 5 20 := rc _ _ _ (by decide +kernel)
theorem rc76 : RCmp 7 6 6 := rc _ _ _ (by decide +kernel)
theorem rc84 : RCmp 8 4 69 := rc _ _ _ (by decide +kernel)
theorem rc85 : RCmp 8 5 55 := rc _ _ _ (by decide +kernel)
theorem rc86 : RCmp 8 6 27 := rc _ _ _ (by decide +kernel)
theorem rc94 : RCmp 9 4 125 := rc _ _ _ (by decide +kernel)
theorem rc95 : RCmp 9 5 125 := rc _ _ _ (by decide +kernel)
theorem rc96 : RCmp 9 6 83 := rc _ _ _ (by decide +kernel)
theorem rc104 : RCmp 10 4 209 := rc _ _ _ (by decide +kernel)
theorem rc105 : RCmp 10 5 251 := rc _ _ _ (by decide +kernel)
theorem rc106 : RCmp 10 6 209 := rc _ _ _ (by decide +kernel)
theorem rc114 : RCmp 11 4 329 := rc _ _ _ (by decide +kernel)
theorem rc115 : RCmp 11 5 461 := rc _ _ _ (by decide +kernel)
theorem rc116 : RCmp 11 6 461 := rc _ _ _ (by decide +kernel)
theorem rc124 : RCmp 12 4 494 := rc _ _ _ (by decide +kernel)
theorem rc125 : RCmp 12 5 791 := rc _ _ _ (by decide +kernel)
theorem rc126 : RCmp 12 6 923 := rc _ _ _ (by decide +kernel)
theorem rc135 : RCmp 13 5 1286 := rc _ _ _ (by decide +kernel)
theorem rc136 : RCmp 13 6 1715 := rc _ _ _ (by decide +kernel)
section
variable {dk wd tl D : Nat} {v k : Nat} (w : World) (hd : dk < 256) (hwd : wd < 256) (ht : tl < 256) (hv : 5 + dk % 9 = v) (hk : 4 + wd % 3 = k)
include hd hwd ht hv hk
theorem rb_n {q : Nat} (hR : RCmp v k q) (hq : 130 < q + 1) (h13 : ¬ (v = 13 ∧ k = 4)) :
   Calls Tryz.prog 4 #[.int .u8 dk, .int .u8 wd, .int .u8 tl, .int .u8 D] w fun en w' => en = .returned (.bool true) ∧ Below w.heap.size w w' :=
 rp_n w fun w => chosen_n9 dk wd tl w v k hd hwd ht hv hk (q + 1) hq (by have := hR.q4; omega) (fun w => rchoose_n v k q w hR h13)
theorem rb_s {q r lam : Nat} (hW : R39 v k r lam (cmb v k [] 0)) (hR : RCmp v k q) (hq : q + 1 ≤ 130) (h13 : ¬ (v = 13 ∧ k = 4)) (n1 : k * k - k + 1 ≠ v) (n2 : k * k ≠ v) (hs : k = v ∨ 40 < (cmb v k [] 0).length) :
   Calls Tryz.prog 4 #[.int .u8 dk, .int .u8 wd, .int .u8 tl, .int .u8 D] w fun en w' => en = .returned (.bool true) ∧ Below w.heap.size w w' :=
 rp_skip w (fun w => chosen_y9 dk wd tl w v k hd hwd ht hv hk (q + 1) hq (cmb v k [] 0) (fun w => rchoose_n v k q w hR h13) (fun w => choose_n v k w hR.c n1 n2)) (hW (1 + tl % 3) (by omega) (by omega)) hs
theorem rb_y {q r lam : Nat} {gs : List (List Nat)} {T : List (List (List Nat))} (hD : D < 256) (hW : R39 v k r lam (cmb v k [] 0)) (hR : RCmp v k q) (hq : q + 1 ≤ 130) (h13 : ¬ (v = 13 ∧ k = 4)) (n1 : k * k - k + 1 ≠ v) (n2 : k * k ≠ v) (hkv : k ≠ v) (hg : cmb v k [] 0 = gs) (h40 : gs.length ≤ 40) (hk6 : k ≤ 6) (hlam : lam ≤ 15) (hf : allF v k r lam gs T = true) :
   Calls Tryz.prog 4 #[.int .u8 dk, .int .u8 wd, .int .u8 tl, .int .u8 D] w fun en w' => en = .returned (.bool true) ∧ Below w.heap.size w w' := by
 obtain ⟨ts, hF⟩ := allF_spec (t := 1 + tl % 3) (d := D % v) hf hg (by omega) (by omega) (Nat.mod_lt _ (by omega))
 exact rp_core w hD (fun w => chosen_y9 dk wd tl w v k hd hwd ht hv hk (q + 1) hq (cmb v k [] 0) (fun w => rchoose_n v k q w hR h13) (fun w => choose_n v k w hR.c n1 n2)) (hW (1 + tl % 3) (by omega) (by omega)) hkv (by rw [hg]; exact h40) (by omega) (by omega) hF
end
theorem rp_all (dk wd tl D : Nat) (w : World) (hd : dk < 256) (hwd : wd < 256) (ht : tl < 256) (hD : D < 256) :
   Calls Tryz.prog 4 #[.int .u8 dk, .int .u8 wd, .int .u8 tl, .int .u8 D] w fun en w' => en = .returned (.bool true) ∧ Below w.heap.size w w' := by
 have h9 : dk % 9 = 0 ∨ dk % 9 = 1 ∨ dk % 9 = 2 ∨ dk % 9 = 3 ∨ dk % 9 = 4 ∨ dk % 9 = 5 ∨ dk % 9 = 6 ∨ dk % 9 = 7 ∨ dk % 9 = 8 := by omega
 have h3 : wd % 3 = 0 ∨ wd % 3 = 1 ∨ wd % 3 = 2 := by omega
 rcases h9 with e | e | e | e | e | e | e | e | e <;> rcases h3 with f | f | f
 · exact rb_y (v := 5) (k := 4) w hd hwd ht (by omega) (by omega) hD wb54 rc54 (by omega) (by omega) (by decide) (by decide) (by omega) rq54 (by decide) (by omega) (by omega) rf54
 · exact rb_s (v := 5) (k := 5) w hd hwd ht (by omega) (by omega) wb55 rc55 (by omega) (by omega) (by decide) (by decide) (.inl rfl)
 · exact rp_n w fun w => chosen_e9 dk wd tl w 5 6 hd hwd ht (by omega) (by omega) fun w => rchoose_arg 5 6 w (by omega) (by omega) (by omega)
 · exact rb_y (v := 6) (k := 4) w hd hwd ht (by omega) (by omega) hD wb64 rc64 (by omega) (by omega) (by decide) (by decide) (by omega) rq64 (by decide) (by omega) (by omega) rf64
 · exact rb_y (v := 6) (k := 5) w hd hwd ht (by omega) (by omega) hD wb65 rc65 (by omega) (by omega) (by decide) (by decide) (by omega) rq65 (by decide) (by omega) (by omega) rf65
 · exact rb_s (v := 6) (k := 6) w hd hwd ht (by omega) (by omega) wb66 rc66 (by omega) (by omega) (by decide) (by decide) (.inl rfl)
 · exact rb_y (v := 7) (k := 4) w hd hwd ht (by omega) (by omega) hD wb74 rc74 (by omega) (by omega) (by decide) (by decide) (by omega) rq74 (by decide) (by omega) (by omega) rf74
 · exact rb_y (v := 7) (k := 5) w hd hwd ht (by omega) (by omega) hD wb75 rc75 (by omega) (by omega) (by decide) (by decide) (by omega) rq75 (by decide) (by omega) (by omega) rf75
 · exact rb_y (v := 7) (k := 6) w hd hwd ht (by omega) (by omega) hD wb76 rc76 (by omega) (by omega) (by decide) (by decide) (by omega) rq76 (by decide) (by omega) (by omega) rf76
 · exact rb_s (v := 8) (k := 4) w hd hwd ht (by omega) (by omega) wb84 rc84 (by omega) (by omega) (by decide) (by decide) (.inr (by decide +kernel))
 · exact rb_s (v := 8) (k := 5) w hd hwd ht (by omega) (by omega) wb85 rc85 (by omega) (by omega) (by decide) (by decide) (.inr (by decide +kernel))
 · exact rb_y (v := 8) (k := 6) w hd hwd ht (by omega) (by omega) hD wb86 rc86 (by omega) (by omega) (by decide) (by decide) (by omega) rq86 (by decide) (by omega) (by omega) rf86
 · exact rb_s (v := 9) (k := 4) w hd hwd ht (by omega) (by omega) wb94 rc94 (by omega) (by omega) (by decide) (by decide) (.inr (by decide +kernel))
 · exact rb_s (v := 9) (k := 5) w hd hwd ht (by omega) (by omega) wb95 rc95 (by omega) (by omega) (by decide) (by decide) (.inr (by decide +kernel))
 · exact rb_s (v := 9) (k := 6) w hd hwd ht (by omega) (by omega) wb96 rc96 (by omega) (by omega) (by decide) (by decide) (.inr (by decide +kernel))
 · exact rb_n (v := 10) (k := 4) w hd hwd ht (by omega) (by omega) rc104 (by omega) (by omega)
 · exact rb_n (v := 10) (k := 5) w hd hwd ht (by omega) (by omega) rc105 (by omega) (by omega)
 · exact rb_n (v := 10) (k := 6) w hd hwd ht (by omega) (by omega) rc106 (by omega) (by omega)
 · exact rb_n (v := 11) (k := 4) w hd hwd ht (by omega) (by omega) rc114 (by omega) (by omega)
 · exact rb_n (v := 11) (k := 5) w hd hwd ht (by omega) (by omega) rc115 (by omega) (by omega)
 · exact rb_n (v := 11) (k := 6) w hd hwd ht (by omega) (by omega) rc116 (by omega) (by omega)
 · exact rb_n (v := 12) (k := 4) w hd hwd ht (by omega) (by omega) rc124 (by omega) (by omega)
 · exact rb_n (v := 12) (k := 5) w hd hwd ht (by omega) (by omega) rc125 (by omega) (by omega)
 · exact rb_n (v := 12) (k := 6) w hd hwd ht (by omega) (by omega) rc126 (by omega) (by omega)
 · obtain ⟨ts, hF⟩ := allF_spec (t := 1 + tl % 3) (d := D % 13) rf134 rq134 (by omega) (by omega) (Nat.mod_lt _ (by omega))
   exact rp_core w hD (fun w => chosen_y9 dk wd tl w 13 4 hd hwd ht (by omega) (by omega) 13 (by omega) plG rchoose_13 choose_13) (wb134 (1 + tl % 3) (by omega) (by omega)) (by omega) (by rw [rq134]; decide) (by omega) (by omega) hF
 · exact rb_n (v := 13) (k := 5) w hd hwd ht (by omega) (by omega) rc135 (by omega) (by omega)
 · exact rb_n (v := 13) (k := 6) w hd hwd ht (by omega) (by omega) rc136 (by omega) (by omega)
end Go.Proofs.YtdcijljfgcjelaaGreat
