/- Texts joined: Rb10, Rb11, Rb12, Crc, Sil1, Rb13, Rb14, Rb15, Rb16, Rb17, Rb18. The parts say what each of them proves. No condition. -/
import Derived.Test.YtdcijljfgcjelaaGreatJh5
namespace Go.Proofs.YtdcijljfgcjelaaGreat
set_option maxRecDepth 20000
open Go.RowKit
attribute [local irreducible] Calls
theorem tmod_bd (z : Int) {k : Nat} (hk : 1 ≤ k) : -(k : Int) < z.tmod k ∧ z.tmod k < k ∧ (0 ≤ z → 0 ≤ z.tmod k) := by
 rcases Int.le_total 0 z with h | h
 · rw [Int.tmod_eq_emod_of_nonneg h]
   have h1 := Int.emod_nonneg z (b := (k : Int)) (by omega)
   have h2 := Int.emod_lt_of_pos z (b := (k : Int)) (by omega)
   exact ⟨by omega, h2, fun _ => h1⟩
 · obtain ⟨y, rfl⟩ : ∃ y, z = -y := ⟨-z, by omega⟩
   rw [Int.neg_tmod, Int.tmod_eq_emod_of_nonneg (by omega)]
   have h1 := Int.emod_nonneg y (b := (k : Int)) (by omega)
   have h2 := Int.emod_lt_of_pos y (b := (k : Int)) (by omega)
   refine ⟨by omega, by omega, fun h3 => ?_⟩
   have : y = 0 := by omega
   subst this
   simp
def onG (gs : List (List Nat)) (n r d B : Nat) : Nat := nth (onP (gdP gs n) d) (B % r)
def mbG (gs : List (List Nat)) (n r d B : Nat) : Nat := B / r * n + onG gs n r d B
def mbI (gs : List (List Nat)) (n k r d B : Nat) : Int := (Int.tmod ((fxI (nth gs (onG gs n r d B)) d k) - (B / r : Nat)) k + k).tmod k
def mbP (gs : List (List Nat)) (n k r d B : Nat) : Nat := (mbI gs n k r d B).toNat
theorem mbI_nat (gs : List (List Nat)) (n r d B : Nat) {k : Nat} (hk : 1 ≤ k) : mbI gs n k r d B = (mbP gs n k r d B : Nat) := by
 unfold mbP
 have h1 := tmod_bd ((fxI (nth gs (onG gs n r d B)) d k) - (B / r : Nat)) hk
 have h2 := (tmod_bd (Int.tmod ((fxI (nth gs (onG gs n r d B)) d k) - (B / r : Nat)) k + k) hk).2.2 (by omega)
 unfold mbI
 omega
set_option maxHeartbeats 8000000 in
theorem at_e {v c t s k r h cp dk B cO no : Nat} {A O : Option Addr} {rs on : List IRow} {R : Value} (w : World) (hm : IMat w (.slice A rs.length c) rs) (hmo : IMat w (.slice O on.length cO) on) (hno : on.length = no) (hil : ils on = onL v (gdP (ils rs) rs.length))
   (hdk : dk < v) (hnv : no = v) (hr1 : 1 ≤ r) (hol : (onP (gdP (ils rs) rs.length) dk).length = r) (hg : onG (ils rs) rs.length r dk B < rs.length) (hl : ∀ i, i < rs.length → (nth (ils rs) i).length = k) (hk1 : 1 ≤ k) (hk16 : k ≤ 16) (hn : rs.length ≤ 4096) (hT : B / r ≤ 256) (hB : B ≤ 65536) (hr : r ≤ 65536) :
   Calls Tryz.prog 118 #[.agg (numC v A c rs t s k r R (.slice O on.length cO) h cp).toArray, iv dk, iv B] w fun e w' => e = .returned (meV (mbG (ils rs) rs.length r dk B) (mbP (ils rs) rs.length k r dk B)) ∧ Below w.heap.size w w' := by
 have hnat := mbI_nat (ils rs) rs.length r dk B hk1
 show Calls Tryz.prog 118 #[.agg #[iv v, .slice A rs.length c, iv t, iv s, iv k, iv r, iv rs.length, R, .slice O on.length cO, iv h, iv cp], iv dk, iv B] w fun e w' => e = .returned (.agg #[iv (mbG (ils rs) rs.length r dk B), iv (mbP (ils rs) rs.length k r dk B : Nat)]) ∧ Below w.heap.size w w'
 rw [← hnat]
 obtain ⟨A1, c1, e1, s1⟩ := irow_at hm hg
 obtain ⟨A2, c2, e2, s2⟩ := irow_at hmo (i := dk) (by omega)
 have ho2 : nth (ils on) dk = onP (gdP (ils rs) rs.length) dk := by rw [hil, onL_at _ hdk]
 rw [ho2, hol] at s2
 have i1 : (rs.map IRow.v)[onG (ils rs) rs.length r dk B * 1]? = some (.slice A1 k c1) := by rw [irowv_get hg, e1]; unfold IRow.v; rw [hl _ hg]
 have i2 : (on.map IRow.v)[dk * 1]? = some (.slice A2 r c2) := by rw [irowv_get (by omega), e2]; unfold IRow.v; rw [ho2, hol]
 have hq : B % r < r := Nat.mod_lt _ (by omega)
 have i3 := ldv_get (ld := onP (gdP (ils rs) rs.length) dk) (k := B % r) (by omega)
 rw [show nth (onP (gdP (ils rs) rs.length) dk) (B % r) = onG (ils rs) rs.length r dk B from rfl] at i3
 rw [hl _ hg] at s1
 have hci := fun w' hb => cindex_e (w := w') (A := A1) (c := c1) (l := nth (ils rs) (onG (ils rs) rs.length r dk B)) dk (hl _ hg) (by omega) (s1.below hb)
 have hfb := fxI_le (nth (ils rs) (onG (ils rs) rs.length r dk B)) dk k (by rw [hl _ hg]; exact Nat.le_refl _)
 rw [hl _ hg] at hfb
 unfold mbI mbG
 generalize fxI (nth (ils rs) (onG (ils rs) rs.length r dk B)) dk k = fx at *
 generalize onG (ils rs) rs.length r dk B = g at *
 have q1 : IntKind.i64.wrap ((B : Int).tdiv (r : Nat)) = ((B / r : Nat) : Int) := by
   rw [show (B : Int).tdiv (r : Nat) = ((B / r : Nat) : Int) from rfl]
   generalize B / r = T at hT ⊢
   exact IntWalk.i64_in _ (by omega)
 have q2 : (B : Int).tmod (r : Nat) = ((B % r : Nat) : Int) := rfl
 have hTn : B / r * rs.length ≤ 256 * 4096 := Nat.mul_le_mul hT hn
 have q3 : IntKind.i64.wrap (((B / r : Nat) : Int) * (rs.length : Nat)) = ((B / r * rs.length : Nat) : Int) := by
   rw [← Int.natCast_mul]
   generalize B / r * rs.length = x at hTn ⊢
   exact IntWalk.i64_in _ (by omega)
 generalize B / r = T at *
 generalize B % r = q at *
 have q4 : IntKind.i64.wrap (((T * rs.length : Nat) : Int) + (g : Int)) = ((T * rs.length + g : Nat) : Int) := by
   rw [show ((T * rs.length : Nat) : Int) + (g : Int) = ((T * rs.length + g : Nat) : Int) from by omega]
   exact IntWalk.i64_in _ (by omega)
 have b1 := tmod_bd (fx - (T : Int)) hk1
 obtain ⟨z1, hz1⟩ : ∃ z1, z1 = (fx - (T : Int)).tmod k := ⟨_, rfl⟩
 rw [← hz1] at b1 ⊢
 obtain ⟨z2, hz2⟩ : ∃ z2, z2 = (z1 + (k : Int)).tmod k := ⟨_, rfl⟩
 rw [← hz2]
 have q5 : (fx - (T : Int)).tmod k = z1 := hz1.symm
 have q6 : (z1 + (k : Int)).tmod k = z2 := hz2.symm
 have hm1 := hm.1
 have hm2 := hmo.1
 rw [hno] at hm2 ⊢
 clear hz1 hz2 hnat hil e1 e2 ho2 hol hl
 generalize rs.map IRow.v = V1 at *
 generalize on.map IRow.v = V2 at *
 generalize hTT : T * rs.length = Tn at *
 generalize rs.length = n at *
 refine calls_wcG (args := [.agg #[iv v, .slice A n c, iv t, iv s, iv k, iv r, iv n, R, .slice O no cO, iv h, iv cp], iv dk, iv B]) [.cell 6 126] [] Tryz.func118 rfl Tryz.ntmps118 rfl rfl (H.refl _) ?_
 refine uS rfl fun K hK => ?_
 refine WL.want rfl (WL1.box rfl rfl (.mk (v := .agg _) rfl rfl) rfl (fun b3 => ?_))
 refine WL.want rfl (WL1.alloc rfl rfl rfl rfl (fun b6 => ?_))
 refine wN hK ?_; clear hK
 refine uS rfl fun K hK => ?_
 refine jm rfl rfl ?_
 refine ja 5 rfl rfl rfl rfl ?_
 refine jl rfl rfl rfl (rd_pt (.tail _ (.head _)) rfl) ?_
 refine wG rfl rfl (g_quo rfl (.mk rfl rfl) (.mk rfl rfl) (by omega) q1) ?_
 refine jm rfl rfl ?_
 refine wN hK ?_; clear hK
 refine WC.seq fun K hK => ?_
 refine WC.quiet rfl (by kernel_rfl) (by decide +kernel) ?_
 refine ya 8 rfl rfl rfl rfl ?_
 refine yl rfl rfl rfl (rd_pt (.tail _ (.head _)) rfl) ?_
 refine ym rfl rfl ?_
 refine WQ.want rfl (WQ1.give rfl (g_indexAddr (sz := 1) rfl (.mk rfl rfl) (.mk rfl rfl) rfl rfl rfl (by omega) (fun _ _ => sl_some hm2 (by omega))) ?_)
 refine yl rfl rfl rfl (rd_sl hm2 i2) ?_
 refine ym rfl rfl ?_
 refine ya 5 rfl rfl rfl rfl ?_
 refine yl rfl rfl rfl (rd_pt (.tail _ (.head _)) rfl) ?_
 refine WQ.want rfl (WQ1.give rfl (g_rem rfl (.mk rfl rfl) (.mk rfl rfl) (by omega) q2) ?_)
 refine WQ.want rfl (WQ1.give rfl (g_indexAddr (sz := 1) rfl (.mk rfl rfl) (.mk rfl rfl) rfl rfl rfl (by omega) (fun _ _ => sl_some s2 (by omega))) ?_)
 refine yl rfl rfl rfl (rd_sl s2 i3) ?_
 refine ym rfl rfl ?_
 refine WQ.nil ?_
 (refine hK _ _ ?_; clear hK)
 refine uS rfl fun K hK => ?_
 iterate 2 refine ja 0 rfl rfl rfl rfl ?_
 refine ja 1 rfl rfl rfl rfl ?_
 refine jl rfl rfl rfl (rd_pt (.tail _ (.head _)) rfl) ?_
 refine jm rfl rfl ?_
 refine wG rfl rfl (g_indexAddr (sz := 1) rfl (.mk rfl rfl) (.mk rfl rfl) rfl rfl rfl (by omega) (fun _ _ => sl_some hm1 (by omega))) ?_
 refine jl rfl rfl rfl (rd_sl hm1 i1) ?_
 refine jm rfl rfl ?_
 refine WL.want rfl (WL1.callP rfl rfl rfl (.cons (.mk (v := .slice _ _ _) rfl rfl) (.cons (.mk (v := .int _ _) rfl rfl) .nil)) (fun w hw => hci w hw.1) ?_)
 refine jm rfl rfl ?_
 refine wN hK ?_; clear hK
 refine WC.seq fun K hK => ?_
 refine WC.untilL [19] rfl (by kernel_rfl) ?_
 refine uP 0 rfl (by decide +kernel) (.inr (iS (by repeat constructor))) rfl rfl ?_
 refine uG 1 rfl (by decide +kernel) (.inr (iS (by repeat constructor))) rfl (Ga 6 rfl rfl rfl) ?_
 refine uB 2 rfl (by decide +kernel) (iS (by repeat constructor)) rfl (Gl rfl rfl (rd_pt (.tail _ (.head _)) rfl)) ?_
 refine uG 3 rfl (by decide +kernel) (.inr (iS (by repeat constructor))) rfl ⟨rfl, g_mul rfl (.mk rfl rfl) (.mk rfl rfl) q3⟩ ?_
 refine uP 4 rfl (by decide +kernel) (.inr (iS (by repeat constructor))) rfl rfl ?_
 refine uG 5 rfl (by decide +kernel) (.inr (iS (by repeat constructor))) rfl ⟨rfl, g_add rfl (.mk rfl rfl) (.mk rfl rfl) q4⟩ ?_
 refine uP 6 rfl (by decide +kernel) (.inr (iS (by repeat constructor))) rfl rfl ?_
 refine uP 7 rfl (by decide +kernel) (.inr (iS (by repeat constructor))) rfl rfl ?_
 refine uG 8 rfl (by decide +kernel) (.inr (iS (by repeat constructor))) rfl (Gi rfl (by omega)) ?_
 refine uG 9 rfl (by decide +kernel) (.inr (iS (by repeat constructor))) rfl (Ga 4 rfl rfl rfl) ?_
 refine uB 10 rfl (by decide +kernel) (iS (by repeat constructor)) rfl (Gl rfl rfl (rd_pt (.tail _ (.head _)) rfl)) ?_
 refine uG 11 rfl (by decide +kernel) (.inr (iS (by repeat constructor))) rfl ⟨rfl, g_rem rfl (.mk rfl rfl) (.mk rfl rfl) (by omega) q5⟩ ?_
 refine uG 12 rfl (by decide +kernel) (.inr (iS (by repeat constructor))) rfl (Ga 4 rfl rfl rfl) ?_
 refine uB 13 rfl (by decide +kernel) (iS (by repeat constructor)) rfl (Gl rfl rfl (rd_pt (.tail _ (.head _)) rfl)) ?_
 refine uG 14 rfl (by decide +kernel) (.inr (iS (by repeat constructor))) rfl (Gi rfl (by omega)) ?_
 refine uG 15 rfl (by decide +kernel) (.inr (iS (by repeat constructor))) rfl (Ga 4 rfl rfl rfl) ?_
 refine uB 16 rfl (by decide +kernel) (iS (by repeat constructor)) rfl (Gl rfl rfl (rd_pt (.tail _ (.head _)) rfl)) ?_
 refine uG 17 rfl (by decide +kernel) (.inr (iS (by repeat constructor))) rfl ⟨rfl, g_rem rfl (.mk rfl rfl) (.mk rfl rfl) (by omega) q6⟩ ?_
 refine uG 18 rfl (by decide +kernel) (.inr (iS (by repeat constructor))) rfl ⟨rfl, g_build (cs := [_, _]) rfl rfl rfl rfl (.cons (.mk (v := .int _ _) rfl rfl) (.cons (.mk (v := .int _ _) rfl rfl) .nil)) rfl rfl rfl⟩ ?_
 refine WB.one 19 (by decide +kernel) rfl rfl ?_
 refine WL1.storeAll rfl rfl (.mk rfl rfl) (.mk rfl rfl) rfl (all1 rfl) (by first | rfl | (simp [Blk.len]; done)) (.head) ?_
 refine WL.nil ?_
 refine ⟨.inl (by decide +kernel), ?_⟩
 refine WB.done (by decide +kernel) ?_
 (refine hK _ _ ?_; clear hK)
 refine WC.ret ?_
 exact ⟨_, .cell rfl rfl rfl rfl (by repeat constructor) .nil, fun w' hw' => ⟨rfl, hw'.1⟩⟩
end Go.Proofs.YtdcijljfgcjelaaGreat
namespace Go.Proofs.YtdcijljfgcjelaaGreat
set_option maxRecDepth 20000
open Go.RowKit
attribute [local irreducible] Calls
abbrev mec (p : Nat × Nat) : List Value := [iv p.1, iv p.2]
abbrev mes (l : List (Nat × Nat)) : List Value := l.flatMap mec
abbrev cmpF : Value := .func (.func 75) #[] #[]
theorem me2 {l : List (Nat × Nat)} : ∀ p ∈ l, (mec p).length = 2 := fun _ _ => rfl
theorem mes_row {l : List (Nat × Nat)} {k : Nat} (h : k < l.length) : ∀ j u, [iv (nth l k).1, iv (nth l k).2][j]? = some u → (mes l)[k * 2 + j]? = some u := flat_row me2 h
theorem mes_snoc (l : List (Nat × Nat)) (p : Nat × Nat) : mes l ++ [iv p.1, iv p.2] = mes (l ++ [p]) := by unfold mes; rw [List.flatMap_append]; simp
def MInc (l : List (Nat × Nat)) : Prop := ∀ i, i + 1 < l.length → (nth l i).1 < (nth l (i + 1)).1
theorem MInc.lt {l : List (Nat × Nat)} (h : MInc l) : ∀ b a, a < b → b < l.length → (nth l a).1 < (nth l b).1
 | 0, _, h1, _ => by omega
 | b + 1, a, h1, h2 => by
   have := h b h2
   by_cases e : a = b
   · subst e; exact this
   · exact Nat.lt_trans (h.lt b a (by omega) (by omega)) this
theorem mcmp_e (a b p q : Nat) (w : World) : Calls Tryz.prog 75 #[meV a p, meV b q] w fun e w' => e = .returned (iv (cmpN a b)) ∧ Below w.heap.size w w' := by
 have h := fun w => compare_e a b w
 generalize cmpN a b = x at *
 refine calls_wc (args := [meV a p, meV b q]) [4] [] Tryz.func75 rfl Tryz.ntmps75 rfl rfl rfl rfl (H.refl _) ?_
 refine uS rfl fun K hK => ?_
 refine WL.want rfl (WL1.box rfl rfl (.mk (v := .agg _) rfl rfl) rfl (fun b2 => ?_))
 refine WL.want rfl (WL1.box rfl rfl (.mk (v := .agg _) rfl rfl) rfl (fun b3 => ?_))
 refine jm rfl rfl ?_
 refine wN hK ?_; clear hK
 refine uS rfl fun K hK => ?_
 refine ja 0 rfl rfl rfl rfl ?_
 refine jl rfl rfl rfl (rd_pt (.tail _ (.head _)) rfl) ?_
 refine ja 0 rfl rfl rfl rfl ?_
 refine jl rfl rfl rfl (rd_pt (.head _) rfl) ?_
 refine WL.want rfl (WL1.callP rfl rfl rfl (.cons (.mk (v := .int _ _) rfl rfl) (.cons (.mk (v := .int _ _) rfl rfl) .nil)) (fun w hw => h w) ?_)
 refine jm rfl rfl ?_
 refine wN hK ?_; clear hK
 refine WC.ret ?_
 exact fun w' hw' => ⟨rfl, hw'.1⟩
variable {A : Option Addr} {c m : Nat} {l : List (Nat × Nat)}
theorem mcmp_ge (hi : MInc l) {i j : Nat} (hij : i < j) (hj : j < l.length) (w : World) : ∃ x : Int, 0 < x ∧ x ≤ 1 ∧ ∀ w : World, Calls Tryz.prog 75 #[meV (nth l j).1 (nth l j).2, meV (nth l i).1 (nth l i).2] w fun e w' => e = .returned (iv x) ∧ Below w.heap.size w w' := by
 have h := hi.lt j i hij hj
 refine ⟨cmpN (nth l j).1 (nth l i).1, ?_, (cmpN_bd _ _).2, fun w => mcmp_e _ _ _ _ w⟩
 unfold cmpN
 rw [if_neg (by omega), if_pos h]; omega
set_option maxHeartbeats 4000000 in
theorem minsort_e (w : World) (hv : Sl w 2 (.slice A m c) m (mes l)) (hl : l.length = m) (hi : MInc l) (hm : m ≤ 1000) :
   Calls Tryz.prog 157 #[.slice A m c, iv 0, iv m, cmpF] w fun e w' => e = .returned (.tuple #[]) ∧ Below w.heap.size w w' := by
 refine calls_wc (args := [.slice A m c, iv 0, iv m, cmpF]) [] [] Tryz.func157 rfl Tryz.ntmps157 rfl rfl rfl rfl (H.refl _) ?_
 refine uS rfl fun K hK => ?_
 refine jm rfl rfl ?_
 refine ji rfl rfl (by omega) ?_
 refine jm rfl rfl ?_
 refine wN hK ?_; clear hK
 refine WC.block ?_
 refine WC.loopF (fun i : Nat => [(8, iv i), (0, .slice A m c), (1, iv 0), (2, iv m), (3, cmpF)]) (fun _ => []) (fun i => 1 ≤ i ∧ (i ≤ m ∨ i = 1)) (fun i => m + 1 - i) 1 (by repeat (first | exact trivial | refine ⟨rfl, ?_⟩)) (Imp.nil _) ⟨by omega, by omega⟩ ?_
 rintro i U ⟨hi1, hi2⟩
 by_cases hlt : i < m
 · obtain ⟨i, rfl⟩ : ∃ z, i = z + 1 := ⟨i - 1, by omega⟩
   obtain ⟨x, hx0, hx1, hcx⟩ := mcmp_ge hi (i := i) (j := i + 1) (by omega) (by omega) w
   have g1 := mes_row (l := l) (k := i + 1) (by omega)
   have g2 := mes_row (l := l) (k := i) (by omega)
   have hsub : IntKind.i64.wrap (((i + 1 : Nat) : Int) - 1) = (i : Int) := by rw [IntWalk.i64_in _ (by omega)]; omega
   refine WC.seq fun K hK => ?_
   refine uS rfl fun K hK => ?_
   iterate 2 refine jm rfl rfl ?_
   refine jt rfl rfl (by omega) ?_
   refine wN hK ?_; clear hK
   refine uT rfl rfl ?_
   refine WC.skip ?_
   (refine hK _ _ ?_; clear hK)
   refine WC.seq fun K hK => ?_
   refine WC.block ?_
   refine uS rfl fun K hK => ?_
   iterate 2 refine jm rfl rfl ?_
   refine wN hK ?_; clear hK
   refine WC.block ?_
   refine WC.loopF (fun _ : Nat => [(9, iv ((i + 1 : Nat) : Int)), (8, iv ((i + 1 : Nat) : Int)), (0, .slice A m c), (1, iv 0), (2, iv m), (3, cmpF)]) (fun _ => []) (fun z => z = 0) (fun z => z) 0 (by repeat (first | exact trivial | refine ⟨rfl, ?_⟩)) (Imp.nil _) rfl ?_
   intro z U2 hz
   refine WC.seq fun K hK => ?_
   refine WC.seq fun K hK => ?_
   refine WC.quiet rfl (by kernel_rfl) (by decide +kernel) ?_
   iterate 2 refine ym rfl rfl ?_
   refine yt rfl rfl (by omega) ?_
   refine ym rfl rfl ?_
   iterate 3 refine Zm rfl rfl ?_
   refine ZW rfl (WQ1.give rfl (g_indexAddr (sz := 2) rfl (.mk rfl rfl) (.mk rfl rfl) rfl rfl rfl (by omega) (fun _ _ => sl_some hv (by omega))) ?_)
   refine ZW rfl (WQ1.give rfl (g_loadA rfl (.mk rfl rfl) rfl rfl (rdr_sl (cs := [iv (nth l (i + 1)).1, iv (nth l (i + 1)).2]) hv (by omega) g1)) ?_)
   iterate 2 refine Zm rfl rfl ?_
   refine ZW rfl (WQ1.give rfl (g_sub rfl (.mk rfl rfl) (.mk rfl rfl) hsub) ?_)
   refine ZW rfl (WQ1.give rfl (g_indexAddr (sz := 2) rfl (.mk rfl rfl) (.mk rfl rfl) rfl rfl rfl (by omega) (fun _ _ => sl_some hv (by omega))) ?_)
   refine ZW rfl (WQ1.give rfl (g_loadA rfl (.mk rfl rfl) rfl rfl (rdr_sl (cs := [iv (nth l i).1, iv (nth l i).2]) hv (by omega) g2)) ?_)
   refine ZW rfl (WQ1.callVP rfl rfl (.mk rfl rfl) rfl (.cons (.mk (v := .agg _) rfl rfl) (.cons (.mk (v := .agg _) rfl rfl) .nil)) (fun w hw => hcx w) ?_)
   refine Zf rfl rfl (by omega) ?_
   refine ym rfl rfl ?_
   refine WQ.nil ?_
   (refine hK _ _ ?_; clear hK)
   refine uF rfl rfl ?_
   refine WC.exit ?_
   (clear hK; refine hK _ _ ?_; clear hK)
   refine WC.region rfl ?_
   refine jm rfl rfl ?_
   refine ji rfl rfl (by omega) ?_
   refine jm rfl rfl ?_
   refine WL.nil ?_
   exact ⟨i + 1 + 1, (by repeat (first | exact trivial | refine ⟨rfl, ?_⟩)), Imp.nil _, ⟨by omega, by omega⟩, by omega⟩
 · refine WC.seq fun K hK => ?_
   refine uS rfl fun K hK => ?_
   iterate 2 refine jm rfl rfl ?_
   refine jf rfl rfl (by omega) ?_
   refine wN hK ?_; clear hK
   refine uF rfl rfl ?_
   refine WC.exit ?_
   exact fun w' hw' => ⟨rfl, hw'.1⟩
set_option maxHeartbeats 4000000 in
theorem order2_e {i j : Nat} {p : Value} (w : World) (hv : Sl w 2 (.slice A m c) m (mes l)) (hl : l.length = m) (hi : MInc l) (hij : i < j) (hj : j < m) (hm : m ≤ 1000) :
   Calls Tryz.prog 213 #[.slice A m c, iv i, iv j, p, cmpF] w fun e w' => e = .returned (.tuple #[iv i, iv j]) ∧ Below w.heap.size w w' := by
 obtain ⟨x, hx0, hx1, hcx⟩ := mcmp_ge hi hij (by omega) w
 have g1 := mes_row (l := l) (k := i) (by omega)
 have g2 := mes_row (l := l) (k := j) (by omega)
 refine calls_wc (args := [.slice A m c, iv i, iv j, p, cmpF]) [10, 11] [] Tryz.func213 rfl Tryz.ntmps213 rfl rfl rfl rfl (H.refl _) ?_
 refine uS rfl fun K hK => ?_
 iterate 2 refine jm rfl rfl ?_
 refine wN hK ?_; clear hK
 refine WC.seq fun K hK => ?_
 refine WC.seq fun K hK => ?_
 refine WC.quiet rfl (by kernel_rfl) (by decide +kernel) ?_
 iterate 3 refine ym rfl rfl ?_
 refine WQ.want rfl (WQ1.give rfl (g_indexAddr (sz := 2) rfl (.mk rfl rfl) (.mk rfl rfl) rfl rfl rfl (by omega) (fun _ _ => sl_some hv (by omega))) ?_)
 refine WQ.want rfl (WQ1.give rfl (g_loadA rfl (.mk rfl rfl) rfl rfl (rdr_sl (cs := [iv (nth l j).1, iv (nth l j).2]) hv (by omega) g2)) ?_)
 iterate 2 refine ym rfl rfl ?_
 refine WQ.want rfl (WQ1.give rfl (g_indexAddr (sz := 2) rfl (.mk rfl rfl) (.mk rfl rfl) rfl rfl rfl (by omega) (fun _ _ => sl_some hv (by omega))) ?_)
 refine WQ.want rfl (WQ1.give rfl (g_loadA rfl (.mk rfl rfl) rfl rfl (rdr_sl (cs := [iv (nth l i).1, iv (nth l i).2]) hv (by omega) g1)) ?_)
 refine WQ.want rfl (WQ1.callVP rfl rfl (.mk rfl rfl) rfl (.cons (.mk (v := .agg _) rfl rfl) (.cons (.mk (v := .agg _) rfl rfl) .nil)) (fun w hw => hcx w) ?_)
 refine yf rfl rfl (by omega) ?_
 refine WQ.nil ?_
 (refine hK _ _ ?_; clear hK)
 refine uF rfl rfl ?_
 refine WC.skip ?_
 (refine hK _ _ ?_; clear hK)
 refine uS rfl fun K hK => ?_
 iterate 4 refine jm rfl rfl ?_
 refine wN hK ?_; clear hK
 refine WC.ret ?_
 exact fun w' hw' => ⟨rfl, hw'.1⟩
set_option maxHeartbeats 4000000 in
theorem median_e {i j k : Nat} {b : Nat} (w : World) (hv : Sl w 2 (.slice A m c) m (mes l)) (hl : l.length = m) (hi : MInc l) (hij : i < j) (hjk : j < k) (hk : k < m) (hm : m ≤ 1000) :
   Calls Tryz.prog 197 #[.slice A m c, iv i, iv j, iv k, cellPtr (some ⟨b, 0, none⟩) 0, cmpF] w fun e w' => e = .returned (iv j) ∧ Below w.heap.size w w' := by
 have h1 := fun w' hb => order2_e (i := i) (j := j) (p := cellPtr (some ⟨b, 0, none⟩) 0) w' (hv.below (w' := w') hb) hl hi hij (by omega) hm
 have h2 := fun w' hb => order2_e (i := j) (j := k) (p := cellPtr (some ⟨b, 0, none⟩) 0) w' (hv.below (w' := w') hb) hl hi hjk hk hm
 refine calls_wc (args := [.slice A m c, iv i, iv j, iv k, cellPtr (some ⟨b, 0, none⟩) 0, cmpF]) [12] [] Tryz.func197 rfl Tryz.ntmps197 rfl rfl rfl rfl (H.refl _) ?_
 refine uS rfl fun K hK => ?_
 refine jm rfl rfl ?_
 refine wN hK ?_; clear hK
 refine uS rfl fun K hK => ?_
 iterate 3 refine jm rfl rfl ?_
 refine jp rfl rfl rfl ?_
 refine jm rfl rfl ?_
 refine WL.want rfl (WL1.callP rfl rfl rfl (.cons (.mk (v := .slice _ _ _) rfl rfl) (.cons (.mk (v := .int _ _) rfl rfl) (.cons (.mk (v := .int _ _) rfl rfl) (.cons (.mk (v := cellPtr _ _) rfl rfl) (.cons (.mk (v := .func _ _ _) rfl rfl) .nil))))) (fun w hw => h1 w hw.1) ?_)
 iterate 5 refine jm rfl rfl ?_
 refine wN hK ?_; clear hK
 refine uS rfl fun K hK => ?_
 iterate 3 refine jm rfl rfl ?_
 refine jp rfl rfl rfl ?_
 refine jm rfl rfl ?_
 refine WL.want rfl (WL1.callP rfl rfl rfl (.cons (.mk (v := .slice _ _ _) rfl rfl) (.cons (.mk (v := .int _ _) rfl rfl) (.cons (.mk (v := .int _ _) rfl rfl) (.cons (.mk (v := cellPtr _ _) rfl rfl) (.cons (.mk (v := .func _ _ _) rfl rfl) .nil))))) (fun w hw => h2 w hw.1) ?_)
 iterate 5 refine jm rfl rfl ?_
 refine wN hK ?_; clear hK
 refine uS rfl fun K hK => ?_
 iterate 3 refine jm rfl rfl ?_
 refine jp rfl rfl rfl ?_
 refine jm rfl rfl ?_
 refine WL.want rfl (WL1.callP rfl rfl rfl (.cons (.mk (v := .slice _ _ _) rfl rfl) (.cons (.mk (v := .int _ _) rfl rfl) (.cons (.mk (v := .int _ _) rfl rfl) (.cons (.mk (v := cellPtr _ _) rfl rfl) (.cons (.mk (v := .func _ _ _) rfl rfl) .nil))))) (fun w hw => h1 w hw.1) ?_)
 iterate 5 refine jm rfl rfl ?_
 refine wN hK ?_; clear hK
 refine uS rfl fun K hK => ?_
 iterate 2 refine jm rfl rfl ?_
 refine wN hK ?_; clear hK
 refine WC.ret ?_
 exact fun w' hw' => ⟨rfl, hw'.1⟩
set_option maxHeartbeats 4000000 in
theorem medadj_e {i : Nat} {b : Nat} (w : World) (hv : Sl w 2 (.slice A m c) m (mes l)) (hl : l.length = m) (hi : MInc l) (h1 : 1 ≤ i) (hk : i + 1 < m) (hm : m ≤ 1000) :
   Calls Tryz.prog 196 #[.slice A m c, iv i, cellPtr (some ⟨b, 0, none⟩) 0, cmpF] w fun e w' => e = .returned (iv i) ∧ Below w.heap.size w w' := by
 have hm1 := fun w' hb => median_e (i := i - 1) (j := i) (k := i + 1) (b := b) w' (hv.below (w' := w') hb) hl hi (by omega) (by omega) hk hm
 have hsub : IntKind.i64.wrap ((i : Int) - 1) = ((i - 1 : Nat) : Int) := by rw [IntWalk.i64_in _ (by omega)]; omega
 have hadd : IntKind.i64.wrap ((i : Int) + 1) = ((i + 1 : Nat) : Int) := by rw [IntWalk.i64_in _ (by omega)]; omega
 refine calls_wc (args := [.slice A m c, iv i, cellPtr (some ⟨b, 0, none⟩) 0, cmpF]) [8] [] Tryz.func196 rfl Tryz.ntmps196 rfl rfl rfl rfl (H.refl _) ?_
 refine uS rfl fun K hK => ?_
 refine jm rfl rfl ?_
 refine wN hK ?_; clear hK
 refine uS rfl fun K hK => ?_
 iterate 2 refine jm rfl rfl ?_
 refine wG rfl rfl (g_sub rfl (.mk rfl rfl) (.mk rfl rfl) hsub) ?_
 iterate 2 refine jm rfl rfl ?_
 refine wG rfl rfl (g_add rfl (.mk rfl rfl) (.mk rfl rfl) hadd) ?_
 refine jp rfl rfl rfl ?_
 refine jm rfl rfl ?_
 refine WL.want rfl (WL1.callP rfl rfl rfl (.cons (.mk (v := .slice _ _ _) rfl rfl) (.cons (.mk (v := .int _ _) rfl rfl) (.cons (.mk (v := .int _ _) rfl rfl) (.cons (.mk (v := .int _ _) rfl rfl) (.cons (.mk (v := cellPtr _ _) rfl rfl) (.cons (.mk (v := .func _ _ _) rfl rfl) .nil)))))) (fun w hw => hm1 w hw.1) ?_)
 refine jm rfl rfl ?_
 refine wN hK ?_; clear hK
 refine WC.ret ?_
 exact fun w' hw' => ⟨rfl, hw'.1⟩
set_option maxHeartbeats 8000000 in
theorem choosep_e (w : World) (hv : Sl w 2 (.slice A m c) m (mes l)) (hl : l.length = m) (hi : MInc l) (h1 : 13 ≤ m) (hm : m ≤ 1000) :
   Calls Tryz.prog 160 #[.slice A m c, iv 0, iv m, cmpF] w fun e w' => e = .returned (.tuple #[iv (m / 4 * 2 : Nat), iv 1]) ∧ Below w.heap.size w w' := by
 have q0 : IntKind.i64.wrap ((m : Int) - 0) = (m : Int) := by rw [IntWalk.i64_in _ (by omega)]; omega
 obtain ⟨q, hq⟩ : ∃ q, q = m / 4 := ⟨_, rfl⟩
 have q1 : IntKind.i64.wrap ((m : Int).tdiv 4) = ((q : Nat) : Int) := by
   rw [show (m : Int).tdiv 4 = ((m / 4 : Nat) : Int) from rfl, ← hq]
   exact IntWalk.i64_in _ (by omega)
 have m1 : IntKind.i64.wrap ((q : Int) * 1) = (q : Int) := by rw [IntWalk.i64_in _ (by omega)]; omega
 have m2 : IntKind.i64.wrap ((q : Int) * 2) = ((q * 2 : Nat) : Int) := by rw [IntWalk.i64_in _ (by omega)]; omega
 have m3 : IntKind.i64.wrap ((q : Int) * 3) = ((q * 3 : Nat) : Int) := by rw [IntWalk.i64_in _ (by omega)]; omega
 have z0 : ∀ x : Nat, x ≤ 4000 → IntKind.i64.wrap ((0 : Int) + (x : Int)) = (x : Int) := fun x hx => by rw [Int.zero_add]; exact IntWalk.i64_in _ (by omega)
 have a1 := z0 q (by omega)
 have a2 := z0 (q * 2) (by omega)
 have a3 := z0 (q * 3) (by omega)
 have hmd := fun w' b hb => median_e (i := q) (j := q * 2) (k := q * 3) (b := b) w' (hv.below (w' := w') hb) hl hi (by omega) (by omega) (by omega) hm
 rw [← hq]
 by_cases h50 : 50 ≤ m
 · have d1 := fun w' b hb => medadj_e (i := q) (b := b) w' (hv.below (w' := w') hb) hl hi (by omega) (by omega) hm
   have d2 := fun w' b hb => medadj_e (i := q * 2) (b := b) w' (hv.below (w' := w') hb) hl hi (by omega) (by omega) hm
   have d3 := fun w' b hb => medadj_e (i := q * 3) (b := b) w' (hv.below (w' := w') hb) hl hi (by omega) (by omega) hm
   refine calls_wc (args := [.slice A m c, iv 0, iv m, cmpF]) [8, 9] [] Tryz.func160 rfl Tryz.ntmps160 rfl rfl rfl rfl (H.refl _) ?_
   refine uS rfl fun K hK => ?_
   iterate 2 refine jm rfl rfl ?_
   refine wN hK ?_; clear hK
   refine uS rfl fun K hK => ?_
   iterate 2 refine jm rfl rfl ?_
   refine wG rfl rfl (g_sub rfl (.mk rfl rfl) (.mk rfl rfl) q0) ?_
   refine jm rfl rfl ?_
   refine wN hK ?_; clear hK
   refine uS rfl fun K hK => ?_
   refine WL.want rfl (WL1.alloc rfl rfl rfl rfl (fun b11 => ?_))
   refine wN hK ?_; clear hK
   refine uS rfl fun K hK => ?_
   iterate 2 refine jm rfl rfl ?_
   refine wG rfl rfl (g_quo rfl (.mk rfl rfl) (.mk rfl rfl) (by omega) q1) ?_
   refine wG rfl rfl (g_mul rfl (.mk rfl rfl) (.mk rfl rfl) m1) ?_
   refine wG rfl rfl (g_add rfl (.mk rfl rfl) (.mk rfl rfl) a1) ?_
   refine jm rfl rfl ?_
   refine wN hK ?_; clear hK
   refine uS rfl fun K hK => ?_
   iterate 2 refine jm rfl rfl ?_
   refine wG rfl rfl (g_quo rfl (.mk rfl rfl) (.mk rfl rfl) (by omega) q1) ?_
   refine wG rfl rfl (g_mul rfl (.mk rfl rfl) (.mk rfl rfl) m2) ?_
   refine wG rfl rfl (g_add rfl (.mk rfl rfl) (.mk rfl rfl) a2) ?_
   refine jm rfl rfl ?_
   refine wN hK ?_; clear hK
   refine uS rfl fun K hK => ?_
   iterate 2 refine jm rfl rfl ?_
   refine wG rfl rfl (g_quo rfl (.mk rfl rfl) (.mk rfl rfl) (by omega) q1) ?_
   refine wG rfl rfl (g_mul rfl (.mk rfl rfl) (.mk rfl rfl) m3) ?_
   refine wG rfl rfl (g_add rfl (.mk rfl rfl) (.mk rfl rfl) a3) ?_
   refine jm rfl rfl ?_
   refine wN hK ?_; clear hK
   refine WC.seq fun K hK => ?_
   refine uS rfl fun K hK => ?_
   refine jm rfl rfl ?_
   refine jt rfl rfl (by omega) ?_
   refine wN hK ?_; clear hK
   refine uT rfl rfl ?_
   refine WC.seq fun K hK => ?_
   refine uS rfl fun K hK => ?_
   refine jm rfl rfl ?_
   refine jt rfl rfl (by omega) ?_
   refine wN hK ?_; clear hK
   refine uT rfl rfl ?_
   refine uS rfl fun K hK => ?_
   iterate 3 refine jm rfl rfl ?_
   refine WL.want rfl (WL1.callP rfl rfl rfl (.cons (.mk (v := .slice _ _ _) rfl rfl) (.cons (.mk (v := .int _ _) rfl rfl) (.cons (.mk (v := cellPtr _ _) rfl rfl) (.cons (.mk (v := .func _ _ _) rfl rfl) .nil)))) (fun w hw => d1 w _ hw.1) ?_)
   refine jm rfl rfl ?_
   refine wN hK ?_; clear hK
   refine uS rfl fun K hK => ?_
   iterate 3 refine jm rfl rfl ?_
   refine WL.want rfl (WL1.callP rfl rfl rfl (.cons (.mk (v := .slice _ _ _) rfl rfl) (.cons (.mk (v := .int _ _) rfl rfl) (.cons (.mk (v := cellPtr _ _) rfl rfl) (.cons (.mk (v := .func _ _ _) rfl rfl) .nil)))) (fun w hw => d2 w _ hw.1) ?_)
   refine jm rfl rfl ?_
   refine wN hK ?_; clear hK
   refine WC.region rfl ?_
   iterate 3 refine jm rfl rfl ?_
   refine WL.want rfl (WL1.callP rfl rfl rfl (.cons (.mk (v := .slice _ _ _) rfl rfl) (.cons (.mk (v := .int _ _) rfl rfl) (.cons (.mk (v := cellPtr _ _) rfl rfl) (.cons (.mk (v := .func _ _ _) rfl rfl) .nil)))) (fun w hw => d3 w _ hw.1) ?_)
   refine jm rfl rfl ?_
   refine wN hK ?_; clear hK
   refine WC.region rfl ?_
   iterate 5 refine jm rfl rfl ?_
   refine WL.want rfl (WL1.callP rfl rfl rfl (.cons (.mk (v := .slice _ _ _) rfl rfl) (.cons (.mk (v := .int _ _) rfl rfl) (.cons (.mk (v := .int _ _) rfl rfl) (.cons (.mk (v := .int _ _) rfl rfl) (.cons (.mk (v := cellPtr _ _) rfl rfl) (.cons (.mk (v := .func _ _ _) rfl rfl) .nil)))))) (fun w hw => hmd w _ hw.1) ?_)
   refine jm rfl rfl ?_
   refine wN hK ?_; clear hK
   refine uS rfl fun K hK => ?_
   refine jl rfl rfl rfl (rd_pt (.head _) rfl) ?_
   refine wN hK ?_; clear hK
   refine WC.block ?_
   refine uS rfl fun K hK => ?_
   refine jt rfl rfl (by omega) ?_
   refine jm rfl rfl ?_
   refine wN hK ?_; clear hK
   refine uT rfl rfl ?_
   refine uS rfl fun K hK => ?_
   iterate 3 refine jm rfl rfl ?_
   refine wN hK ?_; clear hK
   refine WC.ret ?_
   exact fun w' hw' => ⟨rfl, hw'.1⟩
 · refine calls_wc (args := [.slice A m c, iv 0, iv m, cmpF]) [8, 9] [] Tryz.func160 rfl Tryz.ntmps160 rfl rfl rfl rfl (H.refl _) ?_
   refine uS rfl fun K hK => ?_
   iterate 2 refine jm rfl rfl ?_
   refine wN hK ?_; clear hK
   refine uS rfl fun K hK => ?_
   iterate 2 refine jm rfl rfl ?_
   refine wG rfl rfl (g_sub rfl (.mk rfl rfl) (.mk rfl rfl) q0) ?_
   refine jm rfl rfl ?_
   refine wN hK ?_; clear hK
   refine uS rfl fun K hK => ?_
   refine WL.want rfl (WL1.alloc rfl rfl rfl rfl (fun b11 => ?_))
   refine wN hK ?_; clear hK
   refine uS rfl fun K hK => ?_
   iterate 2 refine jm rfl rfl ?_
   refine wG rfl rfl (g_quo rfl (.mk rfl rfl) (.mk rfl rfl) (by omega) q1) ?_
   refine wG rfl rfl (g_mul rfl (.mk rfl rfl) (.mk rfl rfl) m1) ?_
   refine wG rfl rfl (g_add rfl (.mk rfl rfl) (.mk rfl rfl) a1) ?_
   refine jm rfl rfl ?_
   refine wN hK ?_; clear hK
   refine uS rfl fun K hK => ?_
   iterate 2 refine jm rfl rfl ?_
   refine wG rfl rfl (g_quo rfl (.mk rfl rfl) (.mk rfl rfl) (by omega) q1) ?_
   refine wG rfl rfl (g_mul rfl (.mk rfl rfl) (.mk rfl rfl) m2) ?_
   refine wG rfl rfl (g_add rfl (.mk rfl rfl) (.mk rfl rfl) a2) ?_
   refine jm rfl rfl ?_
   refine wN hK ?_; clear hK
   refine uS rfl fun K hK => ?_
   iterate 2 refine jm rfl rfl ?_
   refine wG rfl rfl (g_quo rfl (.mk rfl rfl) (.mk rfl rfl) (by omega) q1) ?_
   refine wG rfl rfl (g_mul rfl (.mk rfl rfl) (.mk rfl rfl) m3) ?_
   refine wG rfl rfl (g_add rfl (.mk rfl rfl) (.mk rfl rfl) a3) ?_
   refine jm rfl rfl ?_
   refine wN hK ?_; clear hK
   refine WC.seq fun K hK => ?_
   refine uS rfl fun K hK => ?_
   refine jm rfl rfl ?_
   refine jt rfl rfl (by omega) ?_
   refine wN hK ?_; clear hK
   refine uT rfl rfl ?_
   refine WC.seq fun K hK => ?_
   refine uS rfl fun K hK => ?_
   refine jm rfl rfl ?_
   refine jf rfl rfl (by omega) ?_
   refine wN hK ?_; clear hK
   refine uF rfl rfl ?_
   refine WC.skip ?_
   (refine hK _ _ ?_; clear hK)
   refine WC.region rfl ?_
   iterate 5 refine jm rfl rfl ?_
   refine WL.want rfl (WL1.callP rfl rfl rfl (.cons (.mk (v := .slice _ _ _) rfl rfl) (.cons (.mk (v := .int _ _) rfl rfl) (.cons (.mk (v := .int _ _) rfl rfl) (.cons (.mk (v := .int _ _) rfl rfl) (.cons (.mk (v := cellPtr _ _) rfl rfl) (.cons (.mk (v := .func _ _ _) rfl rfl) .nil)))))) (fun w hw => hmd w _ hw.1) ?_)
   refine jm rfl rfl ?_
   refine wN hK ?_; clear hK
   refine uS rfl fun K hK => ?_
   refine jl rfl rfl rfl (rd_pt (.head _) rfl) ?_
   refine wN hK ?_; clear hK
   refine WC.block ?_
   refine uS rfl fun K hK => ?_
   refine jt rfl rfl (by omega) ?_
   refine jm rfl rfl ?_
   refine wN hK ?_; clear hK
   refine uT rfl rfl ?_
   refine uS rfl fun K hK => ?_
   iterate 3 refine jm rfl rfl ?_
   refine wN hK ?_; clear hK
   refine WC.ret ?_
   exact fun w' hw' => ⟨rfl, hw'.1⟩
set_option maxHeartbeats 8000000 in
theorem partial_e (w : World) (hv : Sl w 2 (.slice A m c) m (mes l)) (hl : l.length = m) (hi : MInc l) (h1 : 1 ≤ m) (hm : m ≤ 1000) :
   Calls Tryz.prog 162 #[.slice A m c, iv 0, iv m, cmpF] w fun e w' => e = .returned (.bool true) ∧ Below w.heap.size w w' := by
 refine calls_wc (args := [.slice A m c, iv 0, iv m, cmpF]) [8] [] Tryz.func162 rfl Tryz.ntmps162 rfl rfl rfl rfl (H.refl _) ?_
 refine uS rfl fun K hK => ?_
 refine jm rfl rfl ?_
 refine wN hK ?_; clear hK
 refine uS rfl fun K hK => ?_
 refine jm rfl rfl ?_
 refine ji rfl rfl (by omega) ?_
 refine jm rfl rfl ?_
 refine wN hK ?_; clear hK
 refine WC.seq fun K hK => ?_
 refine uS rfl fun K hK => ?_
 refine jm rfl rfl ?_
 refine wN hK ?_; clear hK
 refine WC.block ?_
 refine WC.loopF (fun _ : Nat => [(9, iv 1), (10, iv 0), (0, .slice A m c), (1, iv 0), (2, iv m), (3, cmpF)]) (fun _ => []) (fun z => z = 0) (fun z => z) 0 (by repeat (first | exact trivial | refine ⟨rfl, ?_⟩)) (Imp.nil _) rfl ?_
 intro z U hz
 refine WC.seq fun K hK => ?_
 refine uS rfl fun K hK => ?_
 refine jm rfl rfl ?_
 refine jt rfl rfl (by omega) ?_
 refine wN hK ?_; clear hK
 refine uT rfl rfl ?_
 refine WC.skip ?_
 (refine hK _ _ ?_; clear hK)
 refine WC.seq fun K hK => ?_
 refine WC.block ?_
 refine WC.seq fun K hK => ?_
 refine WC.block ?_
 refine WC.loopF (fun i : Nat => [(9, iv i), (10, iv 0), (0, .slice A m c), (1, iv 0), (2, iv m), (3, cmpF)]) (fun _ => []) (fun i => 1 ≤ i ∧ i ≤ m) (fun i => m - i) 1 (by repeat (first | exact trivial | refine ⟨rfl, ?_⟩)) (Imp.nil _) ⟨by omega, by omega⟩ ?_
 rintro i U2 ⟨hi1, hi2⟩
 by_cases hlt : i < m
 · obtain ⟨i, rfl⟩ : ∃ z, i = z + 1 := ⟨i - 1, by omega⟩
   obtain ⟨x, hx0, hx1, hcx⟩ := mcmp_ge hi (i := i) (j := i + 1) (by omega) (by omega) w
   have g1 := mes_row (l := l) (k := i + 1) (by omega)
   have g2 := mes_row (l := l) (k := i) (by omega)
   have hsub : IntKind.i64.wrap (((i + 1 : Nat) : Int) - 1) = (i : Int) := by rw [IntWalk.i64_in _ (by omega)]; omega
   refine WC.seq fun K hK => ?_
   refine WC.seq fun K hK => ?_
   refine WC.quiet rfl (by kernel_rfl) (by decide +kernel) ?_
   iterate 2 refine ym rfl rfl ?_
   refine yt rfl rfl (by omega) ?_
   refine ym rfl rfl ?_
   iterate 3 refine Zm rfl rfl ?_
   refine ZW rfl (WQ1.give rfl (g_indexAddr (sz := 2) rfl (.mk rfl rfl) (.mk rfl rfl) rfl rfl rfl (by omega) (fun _ _ => sl_some hv (by omega))) ?_)
   refine ZW rfl (WQ1.give rfl (g_loadA rfl (.mk rfl rfl) rfl rfl (rdr_sl (cs := [iv (nth l (i + 1)).1, iv (nth l (i + 1)).2]) hv (by omega) g1)) ?_)
   iterate 2 refine Zm rfl rfl ?_
   refine ZW rfl (WQ1.give rfl (g_sub rfl (.mk rfl rfl) (.mk rfl rfl) hsub) ?_)
   refine ZW rfl (WQ1.give rfl (g_indexAddr (sz := 2) rfl (.mk rfl rfl) (.mk rfl rfl) rfl rfl rfl (by omega) (fun _ _ => sl_some hv (by omega))) ?_)
   refine ZW rfl (WQ1.give rfl (g_loadA rfl (.mk rfl rfl) rfl rfl (rdr_sl (cs := [iv (nth l i).1, iv (nth l i).2]) hv (by omega) g2)) ?_)
   refine ZW rfl (WQ1.callVP rfl rfl (.mk rfl rfl) rfl (.cons (.mk (v := .agg _) rfl rfl) (.cons (.mk (v := .agg _) rfl rfl) .nil)) (fun w hw => hcx w) ?_)
   refine Zf rfl rfl (by omega) ?_
   refine Zm rfl rfl ?_
   refine ym rfl rfl ?_
   refine WQ.nil ?_
   (refine hK _ _ ?_; clear hK)
   refine uT rfl rfl ?_
   refine WC.skip ?_
   (refine hK _ _ ?_; clear hK)
   refine WC.block ?_
   refine WC.region rfl ?_
   refine jm rfl rfl ?_
   refine ji rfl rfl (by omega) ?_
   refine jm rfl rfl ?_
   refine WL.nil ?_
   exact ⟨i + 1 + 1, (by repeat (first | exact trivial | refine ⟨rfl, ?_⟩)), Imp.nil _, ⟨by omega, by omega⟩, by omega⟩
 · obtain rfl : i = m := by omega
   refine WC.seq fun K hK => ?_
   refine WC.seq fun K hK => ?_
   refine WC.quiet rfl (by kernel_rfl) (by decide +kernel) ?_
   iterate 2 refine ym rfl rfl ?_
   refine yf rfl rfl (by omega) ?_
   refine ym rfl rfl ?_
   iterate 13 refine uz rfl rfl ?_
   refine ym rfl rfl ?_
   refine WQ.nil ?_
   (refine hK _ _ ?_; clear hK)
   refine uF rfl rfl ?_
   refine WC.exit ?_
   (clear hK; refine hK _ _ ?_; clear hK)
   refine WC.seq fun K hK => ?_
   refine uS rfl fun K hK => ?_
   iterate 2 refine jm rfl rfl ?_
   refine jt rfl rfl (by omega) ?_
   refine wN hK ?_; clear hK
   refine uT rfl rfl ?_
   refine uS rfl fun K hK => ?_
   refine jm rfl rfl ?_
   refine wN hK ?_; clear hK
   refine WC.ret ?_
   exact fun w' hw' => ⟨rfl, hw'.1⟩
set_option maxHeartbeats 8000000 in
theorem mpdq_e {z : Int} (w : World) (hv : Sl w 2 (.slice A m c) m (mes l)) (hl : l.length = m) (hi : MInc l) (hm : m ≤ 1000) (hz : 13 ≤ m → 1 ≤ z ∧ z ≤ 1000) :
   Calls Tryz.prog 119 #[.slice A m c, iv 0, iv m, iv z, cmpF] w fun e w' => e = .returned (.tuple #[]) ∧ Below w.heap.size w w' := by
 have h1 := fun w' hb => minsort_e w' (hv.below (w' := w') hb) hl hi hm
 refine calls_wc (args := [.slice A m c, iv 0, iv m, iv z, cmpF]) [] [] Tryz.func119 rfl Tryz.ntmps119 rfl rfl rfl rfl (H.refl _) ?_
 refine uS rfl fun K hK => ?_
 refine jm rfl rfl ?_
 refine wN hK ?_; clear hK
 refine uS rfl fun K hK => ?_
 refine jm rfl rfl ?_
 refine wN hK ?_; clear hK
 refine WC.block ?_
 refine WC.loopF (fun _ : Nat => [(10, .bool true), (11, .bool true), (0, .slice A m c), (1, iv 0), (2, iv m), (3, iv z), (4, cmpF)]) (fun _ => []) (fun i => i = 0) (fun i => i) 0 (by repeat (first | exact trivial | refine ⟨rfl, ?_⟩)) (Imp.nil _) rfl ?_
 intro i U hi0
 by_cases h12 : m ≤ 12
 · refine WC.block ?_
   refine uS rfl fun K hK => ?_
   iterate 2 refine jm rfl rfl ?_
   refine ji rfl rfl (by omega) ?_
   refine jm rfl rfl ?_
   refine wN hK ?_; clear hK
   refine WC.seq fun K hK => ?_
   refine uS rfl fun K hK => ?_
   refine jm rfl rfl ?_
   refine jt rfl rfl (by omega) ?_
   refine wN hK ?_; clear hK
   refine uT rfl rfl ?_
   refine uS rfl fun K hK => ?_
   iterate 4 refine jm rfl rfl ?_
   refine WL.want rfl (WL1.callP rfl rfl rfl (.cons (.mk (v := .slice _ _ _) rfl rfl) (.cons (.mk (v := .int _ _) rfl rfl) (.cons (.mk (v := .int _ _) rfl rfl) (.cons (.mk (v := .func _ _ _) rfl rfl) .nil)))) (fun w hw => h1 w hw.1) ?_)
   refine wN hK ?_; clear hK
   refine WC.ret ?_
   exact fun w' hw' => ⟨rfl, hw'.1⟩
 · obtain ⟨hz1, hz2⟩ := hz (by omega)
   have h2 := fun w' hb => choosep_e w' (hv.below (w' := w') hb) hl hi (by omega) hm
   have h3 := fun w' hb => partial_e w' (hv.below (w' := w') hb) hl hi (by omega) hm
   generalize m / 4 * 2 = pv at *
   refine WC.block ?_
   refine uS rfl fun K hK => ?_
   iterate 2 refine jm rfl rfl ?_
   refine ji rfl rfl (by omega) ?_
   refine jm rfl rfl ?_
   refine wN hK ?_; clear hK
   refine WC.seq fun K hK => ?_
   refine uS rfl fun K hK => ?_
   refine jm rfl rfl ?_
   refine jf rfl rfl (by omega) ?_
   refine wN hK ?_; clear hK
   refine uF rfl rfl ?_
   refine WC.skip ?_
   (refine hK _ _ ?_; clear hK)
   refine WC.seq fun K hK => ?_
   refine uS rfl fun K hK => ?_
   refine jm rfl rfl ?_
   refine jf rfl rfl (by omega) ?_
   refine wN hK ?_; clear hK
   refine uF rfl rfl ?_
   refine WC.skip ?_
   (refine hK _ _ ?_; clear hK)
   refine WC.seq fun K hK => ?_
   refine uS rfl fun K hK => ?_
   iterate 2 refine jm rfl rfl ?_
   refine wN hK ?_; clear hK
   refine uF rfl rfl ?_
   refine WC.skip ?_
   (refine hK _ _ ?_; clear hK)
   refine uS rfl fun K hK => ?_
   iterate 4 refine jm rfl rfl ?_
   refine WL.want rfl (WL1.callP rfl rfl rfl (.cons (.mk (v := .slice _ _ _) rfl rfl) (.cons (.mk (v := .int _ _) rfl rfl) (.cons (.mk (v := .int _ _) rfl rfl) (.cons (.mk (v := .func _ _ _) rfl rfl) .nil)))) (fun w hw => h2 w hw.1) ?_)
   iterate 5 refine jm rfl rfl ?_
   refine wN hK ?_; clear hK
   refine WC.seq fun K hK => ?_
   refine uS rfl fun K hK => ?_
   refine jm rfl rfl ?_
   refine jf rfl rfl (by omega) ?_
   refine wN hK ?_; clear hK
   refine uF rfl rfl ?_
   refine WC.skip ?_
   (refine hK _ _ ?_; clear hK)
   refine WC.seq fun K hK => ?_
   refine uS rfl fun K hK => ?_
   iterate 2 refine jm rfl rfl ?_
   refine qm rfl rfl ?_
   iterate 2 refine jm rfl rfl ?_
   refine qm rfl rfl ?_
   refine qt rfl rfl (by omega) ?_
   refine jm rfl rfl ?_
   refine wN hK ?_; clear hK
   refine uT rfl rfl ?_
   refine uS rfl fun K hK => ?_
   iterate 4 refine jm rfl rfl ?_
   refine WL.want rfl (WL1.callP rfl rfl rfl (.cons (.mk (v := .slice _ _ _) rfl rfl) (.cons (.mk (v := .int _ _) rfl rfl) (.cons (.mk (v := .int _ _) rfl rfl) (.cons (.mk (v := .func _ _ _) rfl rfl) .nil)))) (fun w hw => h3 w hw.1) ?_)
   refine wN hK ?_; clear hK
   refine uT rfl rfl ?_
   refine WC.ret ?_
   exact fun w' hw' => ⟨rfl, hw'.1⟩
set_option maxHeartbeats 4000000 in
theorem msort_e (w : World) (hv : Sl w 2 (.slice A m c) m (mes l)) (hl : l.length = m) (hi : MInc l) (hm : m < 64) :
   Calls Tryz.prog 74 #[.slice A m c, cmpF] w fun e w' => e = .returned (.tuple #[]) ∧ Below w.heap.size w w' := by
 have hcv : IntKind.u64.wrap (m : Int) = (m : Int) := IntWalk.u64_in _ (by omega)
 have hbn := fun w => blen_e m w hm
 have hpd := fun w' hb => mpdq_e (z := (blen m : Nat)) w' (hv.below (w' := w') hb) hl hi (by omega) (fun h => by have := blen_pos m hm (by omega); omega)
 generalize blen m = bm at *
 refine calls_wc (args := [.slice A m c, cmpF]) [] [] Tryz.func74 rfl Tryz.ntmps74 rfl rfl rfl rfl (H.refl _) ?_
 refine uS rfl fun K hK => ?_
 refine jm rfl rfl ?_
 refine jn rfl rfl rfl ?_
 refine jm rfl rfl ?_
 refine wN hK ?_; clear hK
 refine WC.region rfl ?_
 iterate 3 refine jm rfl rfl ?_
 refine wG rfl rfl (g_conv rfl rfl rfl (.mk rfl rfl) hcv) ?_
 refine WL.want rfl (WL1.callP rfl rfl rfl (.cons (.mk (v := .int _ _) rfl rfl) .nil) (fun w hw => hbn w) ?_)
 refine jm rfl rfl ?_
 refine WL.want rfl (WL1.callP rfl rfl rfl (.cons (.mk (v := .slice _ _ _) rfl rfl) (.cons (.mk (v := .int _ _) rfl rfl) (.cons (.mk (v := .int _ _) rfl rfl) (.cons (.mk (v := .int _ _) rfl rfl) (.cons (.mk (v := .func _ _ _) rfl rfl) .nil))))) (fun w hw => hpd w hw.1) ?_)
 refine WL.nil ?_
 exact fun w' hw' => ⟨rfl, hw'.1⟩
end Go.Proofs.YtdcijljfgcjelaaGreat
namespace Go.Proofs.YtdcijljfgcjelaaGreat
set_option maxRecDepth 20000
open Go.RowKit
attribute [local irreducible] Calls
def homL (gs : List (List Nat)) (n k r d i : Nat) : List (Nat × Nat) := (List.range i).map fun B => (mbG gs n r d B, mbP gs n k r d B)
theorem homL_len (gs : List (List Nat)) (n k r d i : Nat) : (homL gs n k r d i).length = i := by simp [homL]
theorem homL_snoc (gs : List (List Nat)) (n k r d i : Nat) : homL gs n k r d (i + 1) = homL gs n k r d i ++ [(mbG gs n r d i, mbP gs n k r d i)] := by simp [homL, List.range_succ]
theorem elMe : Elem Tryz.prog 84 MET (.agg #[iv 0, iv 0]) 2 16 := ⟨by kernel_rfl, by kernel_rfl, rfl, by decide⟩
variable {v k r lam t s : Nat} {A : Option Addr} {c : Nat} {rs : List IRow} {M : Option Addr} {mc m : Nat} {ms : List Mv}
set_option maxHeartbeats 8000000 in
theorem londisk_n {d : Nat} (w : World) (hy : Lay v k r lam (ils rs) t s) (hm : IMat w (.slice A rs.length c) rs) (hd : d < v) (hr1 : 1 ≤ r) (hol : (onP (gdP (ils rs) rs.length) d).length = r) (hog : ∀ q, q < r → nth (onP (gdP (ils rs) rs.length) d) q < rs.length) :
   Calls Tryz.prog 73 #[layV v A c rs t s, iv d] w fun e w' => ∃ u N, e = .returned u ∧ H w N w' ∧ ∃ F fc, u = .tuple #[.slice F (t * r) fc, iv 0] ∧ N = [vec F (t * r) fc MET 2 (mes (homL (ils rs) rs.length k r d (t * r)))] := by
 have hcap := hy.cap
 have hv60 := hy.d.v60
 have hn : rs.length ≤ 4096 := hy.d.cnt.2
 have hil : (ils rs).length = rs.length := List.length_map _
 have hms := fun w' hb => measure_n w' hy (hm.below (w' := w') hb)
 have hat := fun w' (O : Option Addr) (cO : Nat) (on : List IRow) (R : Value) (B : Nat) (hmw : IMat w' (.slice A rs.length c) rs) (hmo : IMat w' (.slice O on.length cO) on) (hon : ils on = onL v (gdP (ils rs) rs.length)) (hB : B < t * r) (hT : B / r ≤ 256) => at_e (c := c) (t := t) (s := s) (h := t * r) (cp := t * r + s) (R := R) (dk := d) (B := B) w' hmw hmo rfl hon hd (by have := congrArg List.length hon; rw [List.length_map, onL_len] at this; exact this) hr1 hol (hog _ (Nat.mod_lt _ (by omega))) (fun i hi => hy.d.len i (by omega)) (by have := hy.k4; omega) hy.k16 hn hT (by omega) (by
   have h1 : 1 * r ≤ t * r := Nat.mul_le_mul_right _ hy.t1
   omega)
 have hT : ∀ B, B < t * r → B / r ≤ 256 := fun B hB => by
   have : B / r < t := Nat.div_lt_of_lt_mul (by rw [Nat.mul_comm]; exact hB)
   have := hy.t256
   omega
 have hsn := homL_snoc (ils rs) rs.length k r d
 have hh0 : mes (homL (ils rs) rs.length k r d 0) = [] := rfl
 generalize homL (ils rs) rs.length k r d = hl at *
 generalize t * r = tr at *
 refine calls_wc (args := [layV v A c rs t s, iv d]) [4, 5] [] Tryz.func73 rfl Tryz.ntmps73 rfl rfl rfl rfl (H.refl _) ?_
 refine uS rfl fun K hK => ?_
 refine WL.want rfl (WL1.box rfl rfl (.mk (v := .agg _) rfl rfl) rfl (fun b2 => ?_))
 iterate 2 refine jm rfl rfl ?_
 refine wN hK ?_; clear hK
 refine uS rfl fun K hK => ?_
 refine wG rfl rfl (g_loadA rfl (.mk rfl rfl) rfl rfl (rdr_pt (.head _) (fun j u h => by simpa using h))) ?_
 (refine WL.want rfl (WL1.callN rfl rfl rfl (.cons (.mk (v := .agg _) rfl rfl) .nil) (fun w hw => hms w hw.1) ?_); rintro _ _ ⟨R, cR, O, cO, rk, on, hrk, hon, rfl, rfl⟩)
 iterate 3 refine jm rfl rfl ?_
 refine WL.want rfl (WL1.alloc rfl rfl rfl rfl (fun b6 => ?_))
 refine WL.want rfl (WL1.storeAll rfl rfl (.mk rfl rfl) (.mk rfl rfl) rfl (all1 rfl) (by first | rfl | (simp [Blk.len]; done)) (.head) ?_)
 refine jm rfl rfl ?_
 refine wN hK ?_; clear hK
 refine WC.seq fun K hK => ?_
 refine WC.block ?_
 refine uS rfl fun K hK => ?_
 iterate 3 refine jm rfl rfl ?_
 refine wN hK ?_; clear hK
 refine uF rfl rfl ?_
 refine uS rfl fun K hK => ?_
 refine jm rfl rfl ?_
 refine jf rfl rfl (by omega) ?_
 refine jm rfl rfl ?_
 refine qm rfl rfl ?_
 iterate 2 refine qa 0 rfl rfl rfl rfl ?_
 refine ql rfl rfl rfl (rd_pt (.tail _ (.tail _ (.tail _ (.tail _ (.tail _ (.head _)))))) rfl) ?_
 refine qf rfl rfl (by omega) ?_
 iterate 2 refine jm rfl rfl ?_
 refine wN hK ?_; clear hK
 refine uF rfl rfl ?_
 refine WC.skip ?_
 (refine hK _ _ ?_; clear hK)
 refine uS rfl fun K hK => ?_
 refine jm rfl rfl ?_
 refine wN hK ?_; clear hK
 refine WC.seq fun K hK => ?_
 refine uS rfl fun K hK => ?_
 refine ja 9 rfl rfl rfl rfl ?_
 refine jl rfl rfl rfl (rd_pt (.head _) rfl) ?_
 refine jm rfl rfl ?_
 refine wN hK ?_; clear hK
 refine WC.block ?_
 refine WC.nilvec MET 2 ?_
 
 refine WC.loopF3 (fun (i : Nat) (F : Option Addr) (fc : Nat) => [(30, iv i), (29, iv tr), (8, .slice F i fc), (1, iv d), (6, cellPtr (some ⟨b6, 0, none⟩) 0)]) (fun i F fc => [vec F i fc MET 2 (mes (hl i)), pt b6 NT (numC v A c rs t s k r (.slice R rk.length cR) (.slice O on.length cO) tr (tr + s)), vec O on.length cO 29 1 (on.map IRow.v), rowsI on]) (fun i _ _ => i ≤ tr) (fun i _ _ => tr - i) 0 none 0 (by repeat (first | exact trivial | refine ⟨rfl, ?_⟩)) (by rw [hh0]; exact Imp.pick (by repeat constructor) (Imp.pick (by repeat constructor) (Imp.pick (by repeat constructor) (Imp.pick (by repeat constructor) (Imp.nil _))))) (by omega) ?_
 intro i F fc U hi
 by_cases hlt : i < tr
 · have hTi := hT i hlt
   have hai := fun w' R h1 h2 => hat w' O cO on R i h1 h2 hon hlt hTi
   have hsi := hsn i
   have hsz : szT Tryz.prog NT = some 11 := by kernel_rfl
   generalize mbG (ils rs) rs.length r d i = x at *
   generalize mbP (ils rs) rs.length k r d i = y at *
   refine uS rfl fun K hK => ?_
   refine jt rfl rfl (by omega) ?_
   refine wN hK ?_; clear hK
   refine WC.seq fun K hK => ?_
   refine uT rfl rfl ?_
   refine WC.skip ?_
   (refine hK _ _ ?_; clear hK)
   refine WC.seq fun K hK => ?_
   refine WC.block ?_
   refine uS rfl fun K hK => ?_
   iterate 2 refine jm rfl rfl ?_
   refine wN hK ?_; clear hK
   refine WC.region rfl ?_
   refine jm rfl rfl ?_
   refine wG rfl rfl (g_loadA rfl (.mk rfl rfl) rfl rfl (rdr_pt (.tail _ (.head _)) (fun j u h => by simpa using h))) ?_
   iterate 2 refine jm rfl rfl ?_
   refine WL.want rfl (WL1.callP rfl rfl rfl (.cons (.mk (v := .agg _) rfl rfl) (.cons (.mk (v := .int _ _) rfl rfl) (.cons (.mk (v := .int _ _) rfl rfl) .nil))) (fun w hw => hai w _ (hm.below hw.1) (IMat.of_rows hw (by repeat constructor) (by repeat constructor) rfl)) ?_)
   refine WL.want rfl (WL1.lit (cs := [_, _]) elMe rfl rfl rfl (.cons (.mk (v := .agg _) rfl rfl) .nil) rfl (by first | (simp [Value.cells]; done) | fail) rfl rfl (fun b38 => ?_))
   refine WL.want rfl (WL1.append elMe rfl rfl (.mk rfl rfl) (.mk rfl rfl) (.tail (.head)) (fun w hw => Sl.of_vec hw (.head _)) (all1 rfl) (by unfold maxLen; omega) (by omega) (fun A39 c39 => ?_))
   refine jm rfl rfl ?_
   refine wN hK ?_; clear hK
   refine WC.region rfl ?_
   refine ji rfl rfl (by omega) ?_
   refine jm rfl rfl ?_
   refine WL.nil ?_
   refine ⟨i + 1, A39, c39, (by repeat (first | exact trivial | refine ⟨rfl, ?_⟩)), ?_, by omega, by omega⟩
   rw [hsi, ← mes_snoc]
   exact Imp.pick (by repeat constructor) (Imp.pick (by repeat constructor) (Imp.pick (by repeat constructor) (Imp.pick (by repeat constructor) (Imp.nil _))))
 · obtain rfl : i = tr := by omega
   refine uS rfl fun K hK => ?_
   refine jf rfl rfl (by omega) ?_
   refine wN hK ?_; clear hK
   refine WC.seq fun K hK => ?_
   refine uF rfl rfl ?_
   refine WC.exit ?_
   (clear hK; refine hK _ _ ?_; clear hK)
   refine uS rfl fun K hK => ?_
   iterate 3 refine jm rfl rfl ?_
   refine wN hK ?_; clear hK
   refine WC.ret ?_
   exact fun w' hw' => ⟨_, _, rfl, (Imp.pick (by repeat constructor) (Imp.nil _)).h hw', F, fc, rfl, rfl⟩
def stL (ms : List Mv) : List (Nat × Nat) → List (Nat × Nat)
 | [] => []
 | p :: l => cond (fndB ms p.1 p.2) (stL ms l) (p :: stL ms l)
def gtL : List Mv → Nat → List (Nat × Nat)
 | [], _ => []
 | m :: l, d => cond (Nat.beq m.d d) ((m.g, m.p) :: gtL l d) (gtL l d)
theorem stL_app (ms : List Mv) : ∀ (l q : List (Nat × Nat)), stL ms (l ++ q) = stL ms l ++ stL ms q
 | [], q => rfl
 | p :: l, q => by
   rw [List.cons_append, stL, stL, stL_app ms l]
   cases fndB ms p.1 p.2 <;> rfl
theorem stL_snoc (ms : List Mv) (l : List (Nat × Nat)) (p : Nat × Nat) : stL ms (l ++ [p]) = if fndB ms p.1 p.2 = true then stL ms l else stL ms l ++ [p] := by
 rw [stL_app, stL, stL]
 cases fndB ms p.1 p.2 <;> simp
theorem gtL_app : ∀ (l q : List Mv) (d : Nat), gtL (l ++ q) d = gtL l d ++ gtL q d
 | [], q, d => rfl
 | m :: l, q, d => by
   rw [List.cons_append, gtL, gtL, gtL_app l]
   cases Nat.beq m.d d <;> rfl
theorem gtL_snoc (l : List Mv) (m : Mv) (d : Nat) : gtL (l ++ [m]) d = if m.d = d then gtL l d ++ [(m.g, m.p)] else gtL l d := by
 rw [gtL_app, gtL, gtL, nbeq_iff]
 by_cases h : m.d = d
 · rw [if_pos h, decide_eq_true h]; rfl
 · rw [if_neg h, decide_eq_false h]; simp
theorem stL_len (ms : List Mv) : ∀ l : List (Nat × Nat), (stL ms l).length ≤ l.length
 | [] => Nat.le_refl _
 | p :: l => by
   have ih := stL_len ms l
   rw [stL, List.length_cons]
   cases fndB ms p.1 p.2 with
   | true => rw [cond_true]; omega
   | false => rw [cond_false, List.length_cons]; omega
theorem gtL_len : ∀ (l : List Mv) (d : Nat), (gtL l d).length ≤ l.length
 | [], _ => Nat.le_refl _
 | m :: l, d => by
   have ih := gtL_len l d
   rw [gtL, List.length_cons]
   cases Nat.beq m.d d with
   | true => rw [cond_true, List.length_cons]; omega
   | false => rw [cond_false]; omega
def odL (gs : List (List Nat)) (n k r t : Nat) (ms : List Mv) (d : Nat) : List (Nat × Nat) := stL ms (homL gs n k r d (t * r)) ++ gtL ms d
set_option maxHeartbeats 16000000 in
theorem sondisk_n {d : Nat} (w : World) (hy : Lay v k r lam (ils rs) t s) (hm : IMat w (.slice A rs.length c) rs) (hM : Sl w 4 (.slice M m mc) m (mvs ms)) (hl : ms.length = m) (hs1 : 1 ≤ s) (hk12 : k ≤ 12) (ho : MOk v k r t rs.length s (ils rs) ms) (hd : d < v) (hr1 : 1 ≤ r) (hol : (onP (gdP (ils rs) rs.length) d).length = r) (hog : ∀ q, q < r → nth (onP (gdP (ils rs) rs.length) d) q < rs.length)
   (hinc : MInc (odL (ils rs) rs.length k r t ms d)) (hlen : (odL (ils rs) rs.length k r t ms d).length < 64) :
   Calls Tryz.prog 26 #[layV v A c rs t s, .slice M m mc, iv d] w fun e w' => ∃ u N, e = .returned u ∧ H w N w' ∧ ∃ F fc, u = .tuple #[.slice F (odL (ils rs) rs.length k r t ms d).length fc, iv 0] ∧ N = [vec F (odL (ils rs) rs.length k r t ms d).length fc MET 2 (mes (odL (ils rs) rs.length k r t ms d))] := by
 have hcap := hy.cap
 have hv60 := hy.d.v60
 have hm1 : m ≤ 1000 := by rw [← hl]; exact ho.len
 have hck := fun w' hb => mcheck_e w' hy (hm.below (w' := w') hb) (hM.below hb) hl hs1 hk12 ho
 have hlo := fun w' hb => londisk_n (d := d) w' hy (hm.below (w' := w') hb) hd hr1 hol hog
 have hbs := fun w' hb g p => bsearch_e (g := g) (p := p) w' (hM.below (w' := w') hb) hl hm1 ho.inc
 have hhl := homL_len (ils rs) rs.length k r d (t * r)
 unfold odL at hinc hlen ⊢
 generalize homL (ils rs) rs.length k r d (t * r) = hL at *
 generalize t * r = tr at *
 refine calls_wc (args := [layV v A c rs t s, .slice M m mc, iv d]) [6, 7] [] Tryz.func26 rfl Tryz.ntmps26 rfl rfl rfl rfl (H.refl _) ?_
 refine uS rfl fun K hK => ?_
 refine WL.want rfl (WL1.box rfl rfl (.mk (v := .agg _) rfl rfl) rfl (fun b3 => ?_))
 iterate 2 refine jm rfl rfl ?_
 refine wN hK ?_; clear hK
 refine uS rfl fun K hK => ?_
 refine wG rfl rfl (g_loadA rfl (.mk rfl rfl) rfl rfl (rdr_pt (.head _) (fun j u h => by simpa using h))) ?_
 refine jm rfl rfl ?_
 refine WL.want rfl (WL1.callP rfl rfl rfl (.cons (.mk (v := .agg _) rfl rfl) (.cons (.mk (v := .slice _ _ _) rfl rfl) .nil)) (fun w hw => hck w hw.1) ?_)
 iterate 3 refine jm rfl rfl ?_
 refine WL.want rfl (WL1.alloc rfl rfl rfl rfl (fun b8 => ?_))
 refine WL.want rfl (WL1.storeAll rfl rfl (.mk rfl rfl) (.mk rfl rfl) rfl (all1 rfl) (by first | rfl | (simp [Blk.len]; done)) (.head) ?_)
 refine jm rfl rfl ?_
 refine wN hK ?_; clear hK
 refine WC.seq fun K hK => ?_
 refine WC.block ?_
 refine uS rfl fun K hK => ?_
 iterate 3 refine jm rfl rfl ?_
 refine wN hK ?_; clear hK
 refine uF rfl rfl ?_
 refine uS rfl fun K hK => ?_
 refine jm rfl rfl ?_
 refine jf rfl rfl (by omega) ?_
 refine jm rfl rfl ?_
 refine qm rfl rfl ?_
 iterate 2 refine qa 0 rfl rfl rfl rfl ?_
 refine ql rfl rfl rfl (rd_pt (.tail _ (.head _)) rfl) ?_
 refine qf rfl rfl (by omega) ?_
 iterate 2 refine jm rfl rfl ?_
 refine wN hK ?_; clear hK
 refine uF rfl rfl ?_
 refine WC.skip ?_
 (refine hK _ _ ?_; clear hK)
 refine uS rfl fun K hK => ?_
 refine wG rfl rfl (g_loadA rfl (.mk rfl rfl) rfl rfl (rdr_pt (.tail _ (.head _)) (fun j u h => by simpa using h))) ?_
 refine jm rfl rfl ?_
 (refine WL.want rfl (WL1.callN rfl rfl rfl (.cons (.mk (v := .agg _) rfl rfl) (.cons (.mk (v := .int _ _) rfl rfl) .nil)) (fun w hw => hlo w hw.1) ?_); rintro _ _ ⟨F1, f1, rfl, rfl⟩)
 iterate 5 refine jm rfl rfl ?_
 refine wN hK ?_; clear hK
 refine uS rfl fun K hK => ?_
 refine jm rfl rfl ?_
 refine wN hK ?_; clear hK
 refine WC.seq fun K hK => ?_
 refine uS rfl fun K hK => ?_
 refine jm rfl rfl ?_
 refine jn rfl rfl rfl ?_
 refine jm rfl rfl ?_
 refine wN hK ?_; clear hK
 refine WC.block ?_
 refine WC.nilvec MET 2 ?_
 
 refine WC.loopF3 (fun (i : Nat) (F : Option Addr) (fc : Nat) => [(46, iv i), (45, iv tr), (44, .slice F1 tr f1), (12, .slice F (stL ms (hL.take i)).length fc), (1, .slice M m mc), (2, iv d), (8, cellPtr (some ⟨b8, 0, none⟩) 0)]) (fun i F fc => [vec F (stL ms (hL.take i)).length fc MET 2 (mes (stL ms (hL.take i))), vec F1 tr f1 MET 2 (mes hL), pt b8 STT [iv v, .slice A rs.length c, iv t, iv s, .slice M m mc, iv tr, iv ((tr + s : Nat) : Int)]]) (fun i _ _ => i ≤ tr) (fun i _ _ => tr - i) 0 none 0 (by repeat (first | exact trivial | refine ⟨rfl, ?_⟩)) (Imp.pick (A := vec none 0 0 MET 2 []) (by repeat constructor) (Imp.pick (by repeat constructor) (Imp.pick (by repeat constructor) (Imp.nil _)))) (by omega) ?_
 intro i F fc U hi
 by_cases hlt : i < tr
 · have hts := take_snoc (l := hL) (k := i) (by omega)
   have hsn := stL_snoc ms (hL.take i) (nth hL i)
   rw [← hts] at hsn
   have hul := stL_len ms (hL.take i)
   rw [List.length_take] at hul
   have gM := mes_row (l := hL) (k := i) (by omega)
   have hbi := fun w' hb => hbs w' hb (nth hL i).1 (nth hL i).2
   generalize stL ms (hL.take i) = us at *
   generalize hx : nth hL i = x at *
   obtain ⟨x1, x2⟩ := x
   cases hf : fndB ms x1 x2 with
   | true =>
     rw [if_pos hf] at hsn
     replace hbi : ∀ w', Below w.heap.size w w' → Calls Tryz.prog 63 #[.slice M m mc, meV x1 x2, ordF] w' fun e w2 => e = .returned (.tuple #[iv (posN ms x1 x2), .bool (fndB ms x1 x2)]) ∧ Below w'.heap.size w' w2 := hbi
     rw [hf] at hbi
     refine uS rfl fun K hK => ?_
     refine jt rfl rfl (by omega) ?_
     refine wN hK ?_; clear hK
     refine WC.seq fun K hK => ?_
     refine uT rfl rfl ?_
     refine WC.skip ?_
     (refine hK _ _ ?_; clear hK)
     refine WC.seq fun K hK => ?_
     refine WC.block ?_
     refine uS rfl fun K hK => ?_
     refine wG rfl rfl (g_indexAddr (sz := 2) rfl (.mk rfl rfl) (.mk rfl rfl) rfl rfl rfl (by omega) (fun w hw => vec_some hw (.tail _ (.head _)) (by omega))) ?_
     refine wG rfl rfl (g_loadA rfl (.mk rfl rfl) rfl rfl (rdr_vec (cs := [iv x1, iv x2]) (by repeat constructor) (by omega) gM)) ?_
     refine WL.want rfl (WL1.alloc rfl rfl rfl rfl (fun b14 => ?_))
     refine WL.want rfl (WL1.storeAll rfl rfl (.mk rfl rfl) (.mk rfl rfl) rfl (all1 rfl) (by first | rfl | (simp [Blk.len]; done)) (.head) ?_)
     refine wN hK ?_; clear hK
     refine uS rfl fun K hK => ?_
     refine ja 4 rfl rfl rfl rfl ?_
     refine jl rfl rfl rfl (rd_pt (.tail _ (.tail _ (.tail _ (.head _)))) rfl) ?_
     refine wG rfl rfl (g_loadA rfl (.mk rfl rfl) rfl rfl (rdr_pt (.head _) (fun j u h => by simpa using h))) ?_
     refine WL.want rfl (WL1.callP rfl rfl rfl (.cons (.mk (v := .slice _ _ _) rfl rfl) (.cons (.mk (v := .agg _) rfl rfl) (.cons (.mk (v := .func _ _ _) rfl rfl) .nil))) (fun w hw => hbi w hw.1) ?_)
     iterate 5 refine jm rfl rfl ?_
     refine wN hK ?_; clear hK
     refine uS rfl fun K hK => ?_
     iterate 2 refine jm rfl rfl ?_
     refine wN hK ?_; clear hK
     refine uF rfl rfl ?_
     refine WC.skip ?_
     (refine hK _ _ ?_; clear hK)
     refine WC.region rfl ?_
     refine ji rfl rfl (by omega) ?_
     refine jm rfl rfl ?_
     refine WL.nil ?_
     exact ⟨i + 1, F, fc, by rw [hsn]; exact (by repeat (first | exact trivial | refine ⟨rfl, ?_⟩)), by rw [hsn]; exact Imp.pick (by repeat constructor) (Imp.pick (by repeat constructor) (Imp.pick (by repeat constructor) (Imp.nil _))), by omega, by omega⟩
   | false =>
     rw [if_neg (by rw [hf]; exact Bool.false_ne_true)] at hsn
     replace hbi : ∀ w', Below w.heap.size w w' → Calls Tryz.prog 63 #[.slice M m mc, meV x1 x2, ordF] w' fun e w2 => e = .returned (.tuple #[iv (posN ms x1 x2), .bool (fndB ms x1 x2)]) ∧ Below w'.heap.size w' w2 := hbi
     rw [hf] at hbi
     refine uS rfl fun K hK => ?_
     refine jt rfl rfl (by omega) ?_
     refine wN hK ?_; clear hK
     refine WC.seq fun K hK => ?_
     refine uT rfl rfl ?_
     refine WC.skip ?_
     (refine hK _ _ ?_; clear hK)
     refine WC.seq fun K hK => ?_
     refine WC.block ?_
     refine uS rfl fun K hK => ?_
     refine wG rfl rfl (g_indexAddr (sz := 2) rfl (.mk rfl rfl) (.mk rfl rfl) rfl rfl rfl (by omega) (fun w hw => vec_some hw (.tail _ (.head _)) (by omega))) ?_
     refine wG rfl rfl (g_loadA rfl (.mk rfl rfl) rfl rfl (rdr_vec (cs := [iv x1, iv x2]) (by repeat constructor) (by omega) gM)) ?_
     refine WL.want rfl (WL1.alloc rfl rfl rfl rfl (fun b14 => ?_))
     refine WL.want rfl (WL1.storeAll rfl rfl (.mk rfl rfl) (.mk rfl rfl) rfl (all1 rfl) (by first | rfl | (simp [Blk.len]; done)) (.head) ?_)
     refine wN hK ?_; clear hK
     refine uS rfl fun K hK => ?_
     refine ja 4 rfl rfl rfl rfl ?_
     refine jl rfl rfl rfl (rd_pt (.tail _ (.tail _ (.tail _ (.head _)))) rfl) ?_
     refine wG rfl rfl (g_loadA rfl (.mk rfl rfl) rfl rfl (rdr_pt (.head _) (fun j u h => by simpa using h))) ?_
     refine WL.want rfl (WL1.callP rfl rfl rfl (.cons (.mk (v := .slice _ _ _) rfl rfl) (.cons (.mk (v := .agg _) rfl rfl) (.cons (.mk (v := .func _ _ _) rfl rfl) .nil))) (fun w hw => hbi w hw.1) ?_)
     iterate 5 refine jm rfl rfl ?_
     refine wN hK ?_; clear hK
     refine uS rfl fun K hK => ?_
     iterate 2 refine jm rfl rfl ?_
     refine wN hK ?_; clear hK
     refine uT rfl rfl ?_
     refine WC.region rfl ?_
     refine jm rfl rfl ?_
     refine wG rfl rfl (g_loadA rfl (.mk rfl rfl) rfl rfl (rdr_pt (.head _) (fun j u h => by simpa using h))) ?_
     refine WL.want rfl (WL1.lit (cs := [_, _]) elMe rfl rfl rfl (.cons (.mk (v := .agg _) rfl rfl) .nil) rfl (by first | (simp [Value.cells]; done) | fail) rfl rfl (fun b61 => ?_))
     refine WL.want rfl (WL1.append elMe rfl rfl (.mk rfl rfl) (.mk rfl rfl) (.tail (.tail (.head))) (fun w hw => Sl.of_vec hw (.head _)) (all1 rfl) (by unfold maxLen; omega) (by omega) (fun A62 c62 => ?_))
     refine jm rfl rfl ?_
     refine wN hK ?_; clear hK
     refine WC.region rfl ?_
     refine ji rfl rfl (by omega) ?_
     refine jm rfl rfl ?_
     refine WL.nil ?_
     have hl2 : (stL ms (hL.take (i + 1))).length = us.length + 1 := by rw [hsn, List.length_append]; rfl
     refine ⟨i + 1, A62, c62, by rw [hl2]; exact (by repeat (first | exact trivial | refine ⟨rfl, ?_⟩)), ?_, by omega, by omega⟩
     rw [hl2, hsn, ← mes_snoc]
     exact Imp.pick (by repeat constructor) (Imp.pick (by repeat constructor) (Imp.pick (by repeat constructor) (Imp.nil _)))
 obtain rfl : i = tr := by omega
 rw [List.take_of_length_le (by omega)]
 have hsl := stL_len ms hL
 generalize stL ms hL = us at *
 clear hbs hck hlo
 refine uS rfl fun K hK => ?_
 refine jf rfl rfl (by omega) ?_
 refine wN hK ?_; clear hK
 refine WC.seq fun K hK => ?_
 refine uF rfl rfl ?_
 refine WC.exit ?_
 (clear hK; refine hK _ _ ?_; clear hK)
 refine WC.seq fun K hK => ?_
 refine uS rfl fun K hK => ?_
 refine jm rfl rfl ?_
 refine jn rfl rfl rfl ?_
 refine jm rfl rfl ?_
 refine wN hK ?_; clear hK
 refine WC.block ?_
 refine WC.loopF3 (fun (j : Nat) (F : Option Addr) (fc : Nat) => [(66, iv j), (65, iv m), (64, .slice M m mc), (12, .slice F (us ++ gtL (ms.take j) d).length fc), (2, iv d)]) (fun j F fc => [vec F (us ++ gtL (ms.take j) d).length fc MET 2 (mes (us ++ gtL (ms.take j) d))]) (fun j _ _ => j ≤ m) (fun j _ _ => m - j) 0 F fc (by rw [List.take_zero, show gtL [] d = [] from rfl, List.append_nil]; exact (by repeat (first | exact trivial | refine ⟨rfl, ?_⟩))) (by rw [List.take_zero, show gtL [] d = [] from rfl, List.append_nil]; exact Imp.pick (by repeat constructor) (Imp.nil _)) (by omega) ?_
 intro j F fc U2 hj
 by_cases hlt2 : j < m
 · have hts := take_snoc (l := ms) (k := j) (by omega)
   have hsn := gtL_snoc (ms.take j) (nth ms j) d
   rw [← hts] at hsn
   have hgl := gtL_len (ms.take j) d
   rw [List.length_take] at hgl
   have hul : (us ++ gtL (ms.take j) d).length ≤ i + m := by rw [List.length_append]; omega
   have gM : ∀ q u, [iv (nth ms j).g, iv (nth ms j).p, iv (nth ms j).d, iv (nth ms j).b][q]? = some u → (mvs ms)[j * 4 + q]? = some u := mvs_row (by omega)
   have hnx : us ++ gtL (ms.take (j + 1)) d = if (nth ms j).d = d then (us ++ gtL (ms.take j) d) ++ [((nth ms j).g, (nth ms j).p)] else us ++ gtL (ms.take j) d := by
     rw [hsn]; split
     · rw [List.append_assoc]
     · rfl
   generalize us ++ gtL (ms.take j) d = xs at *
   generalize (nth ms j).g = xg at *
   generalize (nth ms j).p = xp at *
   generalize (nth ms j).d = xd at *
   generalize (nth ms j).b = xb at *
   by_cases he : xd = d
   · rw [if_pos he] at hnx
     refine uS rfl fun K hK => ?_
     refine jt rfl rfl (by omega) ?_
     refine wN hK ?_; clear hK
     refine WC.seq fun K hK => ?_
     refine uT rfl rfl ?_
     refine WC.skip ?_
     (refine hK _ _ ?_; clear hK)
     refine WC.seq fun K hK => ?_
     refine WC.block ?_
     refine uS rfl fun K hK => ?_
     refine wG rfl rfl (g_indexAddr (sz := 4) rfl (.mk rfl rfl) (.mk rfl rfl) rfl rfl rfl (by omega) (fun _ _ => sl_some hM (by omega))) ?_
     refine wG rfl rfl (g_loadA rfl (.mk rfl rfl) rfl rfl (rdr_sl (cs := [iv xg, iv xp, iv xd, iv xb]) hM (by omega) gM)) ?_
     refine WL.want rfl (WL1.alloc rfl rfl rfl rfl (fun b18 => ?_))
     refine WL.want rfl (WL1.storeAll rfl rfl (.mk rfl rfl) (.mk rfl rfl) rfl (all1 rfl) (by first | rfl | (simp [Blk.len]; done)) (.head) ?_)
     refine wN hK ?_; clear hK
     refine uS rfl fun K hK => ?_
     refine ja 2 rfl rfl rfl rfl ?_
     refine ja 0 rfl rfl rfl rfl ?_
     refine jl rfl rfl rfl (rd_pt (.head _) rfl) ?_
     refine jm rfl rfl ?_
     refine jt rfl rfl (by omega) ?_
     refine wN hK ?_; clear hK
     refine uT rfl rfl ?_
     refine WC.region rfl ?_
     refine jm rfl rfl ?_
     refine ja 0 rfl rfl rfl rfl ?_
     refine jl rfl rfl rfl (rd_pt (.head _) rfl) ?_
     refine ja 1 rfl rfl rfl rfl ?_
     refine jl rfl rfl rfl (rd_pt (.head _) rfl) ?_
     refine wG rfl rfl (g_build (cs := [_, _]) rfl rfl rfl rfl (.cons (.mk (v := .int _ _) rfl rfl) (.cons (.mk (v := .int _ _) rfl rfl) .nil)) rfl rfl rfl) ?_
     refine WL.want rfl (WL1.lit (cs := [_, _]) elMe rfl rfl rfl (.cons (.mk (v := .agg _) rfl rfl) .nil) rfl (by first | (simp [Value.cells]; done) | fail) rfl rfl (fun b81 => ?_))
     refine WL.want rfl (WL1.append elMe rfl rfl (.mk rfl rfl) (.mk rfl rfl) (.tail (.tail (.head))) (fun w hw => Sl.of_vec hw (.head _)) (all1 rfl) (by unfold maxLen; omega) (by omega) (fun A82 c82 => ?_))
     refine jm rfl rfl ?_
     refine wN hK ?_; clear hK
     refine WC.region rfl ?_
     refine ji rfl rfl (by omega) ?_
     refine jm rfl rfl ?_
     refine WL.nil ?_
     have hl2 : (us ++ gtL (ms.take (j + 1)) d).length = xs.length + 1 := by rw [hnx, List.length_append]; rfl
     refine ⟨j + 1, A82, c82, by rw [hl2]; exact (by repeat (first | exact trivial | refine ⟨rfl, ?_⟩)), ?_, by omega, by omega⟩
     rw [hl2, hnx, ← mes_snoc]
     exact Imp.pick (by repeat constructor) (Imp.nil _)
   · rw [if_neg he] at hnx
     refine uS rfl fun K hK => ?_
     refine jt rfl rfl (by omega) ?_
     refine wN hK ?_; clear hK
     refine WC.seq fun K hK => ?_
     refine uT rfl rfl ?_
     refine WC.skip ?_
     (refine hK _ _ ?_; clear hK)
     refine WC.seq fun K hK => ?_
     refine WC.block ?_
     refine uS rfl fun K hK => ?_
     refine wG rfl rfl (g_indexAddr (sz := 4) rfl (.mk rfl rfl) (.mk rfl rfl) rfl rfl rfl (by omega) (fun _ _ => sl_some hM (by omega))) ?_
     refine wG rfl rfl (g_loadA rfl (.mk rfl rfl) rfl rfl (rdr_sl (cs := [iv xg, iv xp, iv xd, iv xb]) hM (by omega) gM)) ?_
     refine WL.want rfl (WL1.alloc rfl rfl rfl rfl (fun b18 => ?_))
     refine WL.want rfl (WL1.storeAll rfl rfl (.mk rfl rfl) (.mk rfl rfl) rfl (all1 rfl) (by first | rfl | (simp [Blk.len]; done)) (.head) ?_)
     refine wN hK ?_; clear hK
     refine uS rfl fun K hK => ?_
     refine ja 2 rfl rfl rfl rfl ?_
     refine ja 0 rfl rfl rfl rfl ?_
     refine jl rfl rfl rfl (rd_pt (.head _) rfl) ?_
     refine jm rfl rfl ?_
     refine jf rfl rfl (by omega) ?_
     refine wN hK ?_; clear hK
     refine uF rfl rfl ?_
     refine WC.skip ?_
     (refine hK _ _ ?_; clear hK)
     refine WC.region rfl ?_
     refine ji rfl rfl (by omega) ?_
     refine jm rfl rfl ?_
     refine WL.nil ?_
     exact ⟨j + 1, F, fc, by rw [hnx]; exact (by repeat (first | exact trivial | refine ⟨rfl, ?_⟩)), by rw [hnx]; exact Imp.pick (by repeat constructor) (Imp.nil _), by omega, by omega⟩
 · obtain rfl : j = m := by omega
   rw [List.take_of_length_le (by omega)]
   have hso := fun w' F fc h => msort_e (A := F) (c := fc) (l := us ++ gtL ms d) w' h rfl hinc hlen
   refine uS rfl fun K hK => ?_
   refine jf rfl rfl (by omega) ?_
   refine wN hK ?_; clear hK
   refine WC.seq fun K hK => ?_
   refine uF rfl rfl ?_
   refine WC.exit ?_
   (clear hK; refine hK _ _ ?_; clear hK)
   refine uS rfl fun K hK => ?_
   refine jm rfl rfl ?_
   refine WL.want rfl (WL1.callP rfl rfl rfl (.cons (.mk (v := .slice _ _ _) rfl rfl) (.cons (.mk (v := .func _ _ _) rfl rfl) .nil)) (fun w hw => hso w _ _ (Sl.of_vec hw (by repeat constructor))) ?_)
   refine wN hK ?_; clear hK
   refine uS rfl fun K hK => ?_
   iterate 3 refine jm rfl rfl ?_
   refine wN hK ?_; clear hK
   refine WC.ret ?_
   exact fun w' hw' => ⟨_, _, rfl, hw', F, fc, rfl, rfl⟩
end Go.Proofs.YtdcijljfgcjelaaGreat
namespace Go.Proofs.YtdcijljfgcjelaaGreat
set_option maxRecDepth 20000
def cpoly : Nat := 0xc96c5795d7870f42
def cstep (x : Nat) : Nat := if x % 2 = 1 then x / 2 ^^^ cpoly else x / 2
def csteps : Nat → Nat → Nat
 | 0, x => x
 | n + 1, x => csteps n (cstep x)
@[irreducible] def cbyte (x : Nat) : Nat := csteps 8 x
def cupd : Nat → List Nat → Nat
 | x, [] => x
 | x, c :: cs => cupd (cbyte (x ^^^ c)) cs
def cnum : List Nat → Nat
 | [] => 0
 | c :: cs => c ^^^ 256 * cnum cs
end Go.Proofs.YtdcijljfgcjelaaGreat
namespace Go.Proofs.YtdcijljfgcjelaaGreat
set_option maxRecDepth 20000
open Go.RowKit
abbrev u64 (x : Nat) : Value := .int .u64 (x : Int)
abbrev u8s (l : List Nat) : List Value := l.map fun n : Nat => .int .u8 (n : Int)
theorem b64 (x : Nat) (h : x < 2 ^ 64) : (BitVec.ofInt 64 (x : Int)).toNat = x := by
 rw [BitVec.ofInt_natCast, BitVec.toNat_ofNat, Nat.mod_eq_of_lt h]
theorem u64n (x : Nat) (h : x < 2 ^ 64) : IntKind.u64.wrap (x : Int) = x := IntWalk.u64_in _ ⟨by omega, by omega⟩
theorem u64_and1 (x : Nat) (hx : x < 2 ^ 64) : IntKind.u64.wrap ((BitVec.ofInt IntKind.u64.bits (x : Int) &&& BitVec.ofInt IntKind.u64.bits 1).toNat : Int) = ((x % 2 : Nat) : Int) := by
 rw [show IntKind.u64.bits = 64 from rfl, BitVec.toNat_and, b64 x hx, show (BitVec.ofInt 64 1).toNat = 1 from rfl, Nat.and_one_is_mod, u64n _ (by omega)]
theorem u64_shr (x : Nat) {z : Int} (i : Nat) (hz : z = (i : Int)) (hi : i ≤ 64) : (x : Int).fdiv (2 ^ (min z.toNat IntKind.u64.bits)) = ((x / 2 ^ i : Nat) : Int) := by
 subst hz
 rw [Int.toNat_natCast, show IntKind.u64.bits = 64 from rfl, Nat.min_eq_left hi, Int.fdiv_eq_ediv_of_nonneg _ (by exact_mod_cast Nat.zero_le _)]
 push_cast
 rfl
@[irreducible] def cnot (x : Nat) : Nat := (2 ^ 64 - 1) ^^^ x
attribute [local irreducible] cstep csteps cupd
@[irreducible] def crcN (bs : List Nat) : Nat := cnot (cupd (cnot 0) bs)
def bytesOf (n x : Nat) : List Nat := (List.range n).map fun i => x / 2 ^ (8 * i) % 256
def pieceB (g p v : Nat) (d : Blk) : List Nat := bytesOf 4 g ++ bytesOf 4 p ++ bytesOf 8 v ++ d.l.map fun x => x.val
@[irreducible] def sumN (g p v : Nat) (d : Blk) : Nat := crcN (pieceB g p v d)
abbrev z24 : List Value := [.int .u8 0, .int .u8 0, .int .u8 0, .int .u8 0, .int .u8 0, .int .u8 0, .int .u8 0, .int .u8 0, .int .u8 0, .int .u8 0, .int .u8 0, .int .u8 0, .int .u8 0, .int .u8 0, .int .u8 0, .int .u8 0, .int .u8 0, .int .u8 0, .int .u8 0, .int .u8 0, .int .u8 0, .int .u8 0, .int .u8 0, .int .u8 0]
end Go.Proofs.YtdcijljfgcjelaaGreat
namespace Go.Proofs.YtdcijljfgcjelaaGreat
set_option maxRecDepth 20000
open Go.RowKit
attribute [local irreducible] Calls
section
variable {P : Program} {n : Fr} {C : World → Prop} {o : Oper} {E : Env}
theorem g_or {t t' : TypeId} {x y : Operand} {k : IntKind} {a b r : Int} (ho : o.op = .binOp .or t x y t') (hx : Ev n E x (.int k a)) (hy : Ev n E y (.int k b)) (hr : k.wrap (BitVec.ofInt k.bits a ||| BitVec.ofInt k.bits b).toNat = r) : Gives P n C o E (.int k r) := fun w _ => by
 unfold Ev at hx hy; unfold execOp; subst hr; simp [ho, hx, hy, eqGuard, binOp, Op.intBits]
end
theorem u64_or (x y : Nat) (hx : x < 2 ^ 64) (hy : y < 2 ^ 64) : IntKind.u64.wrap ((BitVec.ofInt IntKind.u64.bits (x : Int) ||| BitVec.ofInt IntKind.u64.bits (y : Int)).toNat : Int) = ((x ||| y : Nat) : Int) := by
 rw [show IntKind.u64.bits = 64 from rfl, BitVec.toNat_or, b64 x hx, b64 y hy, u64n _ (Nat.or_lt_two_pow hx hy)]
theorem u64_shl1 {z : Int} (i : Nat) (hz : z = (i : Int)) (hi : i < 64) : IntKind.u64.wrap ((1 : Int) * 2 ^ (min z.toNat IntKind.u64.bits)) = ((2 ^ i : Nat) : Int) := by
 subst hz
 rw [Int.toNat_natCast, show IntKind.u64.bits = 64 from rfl, Nat.min_eq_left (by omega), Int.one_mul, show (2 : Int) ^ i = ((2 ^ i : Nat) : Int) from by push_cast; rfl]
 exact u64n _ (Nat.pow_lt_pow_right (by omega) hi)
abbrev HPT : TypeId := 227
theorem elHp : Elem Tryz.prog 225 HPT (.agg #[iv 0, iv 0]) 2 16 := ⟨by kernel_rfl, by kernel_rfl, rfl, by decide⟩
abbrev hpF : Value := .func (.func 153) #[] #[]
theorem hcmp_e (a b p q : Nat) (w : World) (ha : a ≤ 100000) (hb : b ≤ 100000) : Calls Tryz.prog 153 #[meV a p, meV b q] w fun e w' => e = .returned (iv ((a : Int) - b)) ∧ Below w.heap.size w w' := by
 refine calls_wc (args := [meV a p, meV b q]) [4] [] Tryz.func153 rfl Tryz.ntmps153 rfl rfl rfl rfl (H.refl _) ?_
 refine uS rfl fun K hK => ?_
 refine WL.want rfl (WL1.box rfl rfl (.mk (v := .agg _) rfl rfl) rfl (fun b2 => ?_))
 refine WL.want rfl (WL1.box rfl rfl (.mk (v := .agg _) rfl rfl) rfl (fun b3 => ?_))
 refine jm rfl rfl ?_
 refine wN hK ?_; clear hK
 refine uS rfl fun K hK => ?_
 refine ja 0 rfl rfl rfl rfl ?_
 refine jl rfl rfl rfl (rd_pt (.tail _ (.head _)) rfl) ?_
 refine ja 0 rfl rfl rfl rfl ?_
 refine jl rfl rfl rfl (rd_pt (.head _) rfl) ?_
 refine ji rfl rfl (by omega) ?_
 refine jm rfl rfl ?_
 refine wN hK ?_; clear hK
 refine WC.ret ?_
 exact fun w' hw' => ⟨rfl, hw'.1⟩
def insP : List (Nat × Nat) → Nat → List (Nat × Nat)
 | l, 0 => l
 | l, j + 1 => cond (Nat.blt (nth l (j + 1)).1 (nth l j).1) (insP ((l.set (j + 1) (nth l j)).set j (nth l (j + 1))) j) l
def isoP (l : List (Nat × Nat)) : Nat → List (Nat × Nat)
 | 0 => l
 | i + 1 => insP (isoP l i) i
def isortP (l : List (Nat × Nat)) : List (Nat × Nat) := isoP l l.length
theorem insP_len : ∀ (j : Nat) (l : List (Nat × Nat)), (insP l j).length = l.length
 | 0, l => rfl
 | j + 1, l => by
   rw [insP]
   cases Nat.blt (nth l (j + 1)).1 (nth l j).1 with
   | true => rw [cond_true, insP_len j, List.length_set, List.length_set]
   | false => rfl
theorem isoP_len (l : List (Nat × Nat)) : ∀ i, (isoP l i).length = l.length
 | 0 => rfl
 | i + 1 => by rw [isoP, insP_len, isoP_len l i]
theorem isortP_len (l : List (Nat × Nat)) : (isortP l).length = l.length := isoP_len l _
theorem isoP_one (l : List (Nat × Nat)) : isoP l 1 = l := by rw [isoP, isoP, insP]
def PSm (l : List (Nat × Nat)) : Prop := ∀ i, i < l.length → (nth l i).1 ≤ 100000
theorem PSm.swap {l : List (Nat × Nat)} (h : PSm l) {j : Nat} (hj : j + 1 < l.length) : PSm ((l.set (j + 1) (nth l j)).set j (nth l (j + 1))) := fun i hi => by
 rw [List.length_set, List.length_set] at hi
 rw [nth_set_eq (by rw [List.length_set]; omega), nth_set_eq hj]
 split
 · exact h _ hj
 · split
   · exact h _ (by omega)
   · exact h _ hi
theorem mes_put {l : List (Nat × Nat)} {k i : Nat} {p : Nat × Nat} (hk : k < l.length) (hi : i = k * 2) : spl (mes l) i [iv p.1, iv p.2] = mes (l.set k p) := by subst hi; exact flat_set me2 rfl hk
theorem mes_len (l : List (Nat × Nat)) : (mes l).length = l.length * 2 := by
 induction l with
 | nil => rfl
 | cons a l ih => show (mec a ++ mes l).length = _; rw [List.length_append, ih]; show 2 + l.length * 2 = (l.length + 1) * 2; omega
set_option maxHeartbeats 8000000 in
theorem hinsort_f {w0 w : World} {L0 : List Asrt} {A : Option Addr} {c m : Nat} {l : List (Nat × Nat)} (hl : l.length = m) (hm : m ≤ 1000) (hsm : PSm l) (hw : H w0 (vec A m c HPT 2 (mes l) :: L0) w) :
   Calls Tryz.prog 202 #[.slice A m c, iv 0, iv m, hpF] w fun e w' => ∃ v L', e = .returned v ∧ H w0 L' w' ∧ v = .tuple #[] ∧ L' = vec A m c HPT 2 (mes (isortP l)) :: L0 := by
 have hone := isoP_one l
 refine calls_wc (args := [.slice A m c, iv 0, iv m, hpF]) [] (vec A m c HPT 2 (mes l) :: L0) Tryz.func202 rfl Tryz.ntmps202 rfl rfl rfl rfl hw ?_
 refine uS rfl fun K hK => ?_
 refine jm rfl rfl ?_
 refine ji rfl rfl (by omega) ?_
 refine jm rfl rfl ?_
 refine wN hK ?_; clear hK
 refine WC.block ?_
 refine WC.loopF (fun i : Nat => [(8, iv i), (0, .slice A m c), (1, iv 0), (2, iv m), (3, hpF)]) (fun i => vec A m c HPT 2 (mes (isoP l i)) :: L0) (fun i => 1 ≤ i ∧ (i ≤ m ∨ i = 1) ∧ PSm (isoP l i)) (fun i => m + 1 - i) 1 (by repeat (first | exact trivial | refine ⟨rfl, ?_⟩)) (by rw [hone]; exact Imp.refl _) ⟨by omega, by omega, by rw [hone]; exact hsm⟩ ?_
 rintro i U ⟨hi1, hi, hps⟩
 by_cases hlt : i < m
 · have hnx : isoP l (i + 1) = insP (isoP l i) i := rfl
   have hil : (isoP l i).length = m := by rw [isoP_len, hl]
   refine WC.seq fun K hK => ?_
   refine uS rfl fun K hK => ?_
   iterate 2 refine jm rfl rfl ?_
   refine jt rfl rfl (by omega) ?_
   refine wN hK ?_; clear hK
   refine uT rfl rfl ?_
   refine WC.skip ?_
   (refine hK _ _ ?_; clear hK)
   refine WC.seq fun K hK => ?_
   refine WC.block ?_
   refine uS rfl fun K hK => ?_
   iterate 2 refine jm rfl rfl ?_
   refine wN hK ?_; clear hK
   refine WC.block ?_
   refine WC.loopF2 (fun (j : Nat) (q : List (Nat × Nat)) => [(9, iv j), (8, iv i), (0, .slice A m c), (1, iv 0), (2, iv m), (3, hpF)]) (fun j q => vec A m c HPT 2 (mes q) :: L0) (fun j q => j ≤ i ∧ q.length = m ∧ PSm q ∧ insP q j = isoP l (i + 1)) (fun j _ => j) i (isoP l i) (by repeat (first | exact trivial | refine ⟨rfl, ?_⟩)) (Imp.refl _) ⟨Nat.le_refl _, hil, hps, rfl⟩ ?_
   rintro j q U2 ⟨hj, hql, hpq, hq⟩
   by_cases hj0 : j = 0
   · subst hj0
     have hq2 : q = isoP l (i + 1) := hq
     refine WC.seq fun K hK => ?_
     refine WC.seq fun K hK => ?_
     refine WC.quiet rfl (by kernel_rfl) (by decide +kernel) ?_
     iterate 2 refine ym rfl rfl ?_
     refine yf rfl rfl (by omega) ?_
     refine ym rfl rfl ?_
     iterate 12 refine uz rfl rfl ?_
     refine ym rfl rfl ?_
     refine WQ.nil ?_
     (refine hK _ _ ?_; clear hK)
     refine uF rfl rfl ?_
     refine WC.exit ?_
     (clear hK; refine hK _ _ ?_; clear hK)
     refine WC.region rfl ?_
     refine jm rfl rfl ?_
     refine ji rfl rfl (by omega) ?_
     refine jm rfl rfl ?_
     refine WL.nil ?_
     exact ⟨i + 1, (by repeat (first | exact trivial | refine ⟨rfl, ?_⟩)), by rw [← hq2]; exact Imp.refl _, ⟨by omega, by omega, by rw [← hq2]; exact hpq⟩, by omega⟩
   · obtain ⟨j, rfl⟩ : ∃ z, j = z + 1 := ⟨j - 1, by omega⟩
     have g1 := mes_row (l := q) (k := j + 1) (by omega)
     have g2 := mes_row (l := q) (k := j) (by omega)
     have hsub : IntKind.i64.wrap (((j + 1 : Nat) : Int) - 1) = (j : Int) := by rw [IntWalk.i64_in _ (by omega)]; omega
     have b1 := hpq (j + 1) (by omega)
     have b2 := hpq j (by omega)
     have hle := fun w => hcmp_e (nth q (j + 1)).1 (nth q j).1 (nth q (j + 1)).2 (nth q j).2 w b1 b2
     have hqL : (mes q).length = m * 2 := by rw [mes_len, hql]
     by_cases hb : (nth q (j + 1)).1 < (nth q j).1
     · have hq3 : insP ((q.set (j + 1) (nth q j)).set j (nth q (j + 1))) j = isoP l (i + 1) := by
         rw [← hq, insP, blt_iff, decide_eq_true hb]; rfl
       have hps3 := hpq.swap (j := j) (by omega)
       have hst : ∀ k1 k2, k1 = (j + 1) * 2 → k2 = j * 2 → spl (spl (mes q) k1 [iv (nth q j).1, iv (nth q j).2]) k2 [iv (nth q (j + 1)).1, iv (nth q (j + 1)).2] = mes ((q.set (j + 1) (nth q j)).set j (nth q (j + 1))) := fun k1 k2 h1 h2 => by
         rw [mes_put (by omega) h1, mes_put (by rw [List.length_set]; omega) h2]
       have hsl : ∀ k1, k1 = (j + 1) * 2 → (spl (mes q) k1 [iv (nth q j).1, iv (nth q j).2]).length = m * 2 := fun k1 h1 => by
         rw [mes_put (by omega) h1, mes_len, List.length_set, hql]
       have hsl2 := hsl ((j + 1) * 2) rfl
       refine WC.seq fun K hK => ?_
       refine WC.seq fun K hK => ?_
       refine WC.quiet rfl (by kernel_rfl) (by decide +kernel) ?_
       iterate 2 refine ym rfl rfl ?_
       refine yt rfl rfl (by omega) ?_
       refine ym rfl rfl ?_
       iterate 3 refine Zm rfl rfl ?_
       refine ZW rfl (WQ1.give rfl (g_indexAddr (sz := 2) rfl (.mk rfl rfl) (.mk rfl rfl) rfl rfl rfl (by omega) (fun w hw => vec_some hw (.head _) (by omega))) ?_)
       refine ZW rfl (WQ1.give rfl (g_loadA rfl (.mk rfl rfl) rfl rfl (rdr_vec (cs := [iv (nth q (j + 1)).1, iv (nth q (j + 1)).2]) (by repeat constructor) (by omega) g1)) ?_)
       iterate 2 refine Zm rfl rfl ?_
       refine ZW rfl (WQ1.give rfl (g_sub rfl (.mk rfl rfl) (.mk rfl rfl) hsub) ?_)
       refine ZW rfl (WQ1.give rfl (g_indexAddr (sz := 2) rfl (.mk rfl rfl) (.mk rfl rfl) rfl rfl rfl (by omega) (fun w hw => vec_some hw (.head _) (by omega))) ?_)
       refine ZW rfl (WQ1.give rfl (g_loadA rfl (.mk rfl rfl) rfl rfl (rdr_vec (cs := [iv (nth q j).1, iv (nth q j).2]) (by repeat constructor) (by omega) g2)) ?_)
       refine ZW rfl (WQ1.callVP rfl rfl (.mk rfl rfl) rfl (.cons (.mk (v := .agg _) rfl rfl) (.cons (.mk (v := .agg _) rfl rfl) .nil)) (fun w hw => hle w) ?_)
       refine Zt rfl rfl (by omega) ?_
       refine ym rfl rfl ?_
       refine WQ.nil ?_
       (refine hK _ _ ?_; clear hK)
       refine uT rfl rfl ?_
       refine WC.skip ?_
       (refine hK _ _ ?_; clear hK)
       refine WC.seq fun K hK => ?_
       refine WC.block ?_
       refine WC.untilL [15, 16, 17] rfl (by kernel_rfl) ?_
       refine uP 0 rfl (by decide +kernel) (.inr (iS (by repeat constructor))) rfl rfl ?_
       refine uP 1 rfl (by decide +kernel) (.inr (iS (by repeat constructor))) rfl rfl ?_
       refine uP 2 rfl (by decide +kernel) (.inr (iS (by repeat constructor))) rfl rfl ?_
       refine uP 3 rfl (by decide +kernel) (.inr (iS (by repeat constructor))) rfl rfl ?_
       refine uG 4 rfl (by decide +kernel) (.inr (iS (by repeat constructor))) rfl ⟨rfl, g_sub rfl (.mk rfl rfl) (.mk rfl rfl) hsub⟩ ?_
       refine uP 5 rfl (by decide +kernel) (.inr (iS (by repeat constructor))) rfl rfl ?_
       refine uP 6 rfl (by decide +kernel) (.inr (iS (by repeat constructor))) rfl rfl ?_
       refine uG 7 rfl (by decide +kernel) (.inr (iS (by repeat constructor))) rfl ⟨rfl, g_sub rfl (.mk rfl rfl) (.mk rfl rfl) hsub⟩ ?_
       refine uB 8 rfl (by decide +kernel) (iS (by repeat constructor)) rfl ⟨rfl, g_indexAddr (sz := 2) rfl (.mk rfl rfl) (.mk rfl rfl) rfl rfl rfl (by omega) (fun w hw => vec_some hw (.head _) (by omega))⟩ ?_
       refine uB 9 rfl (by decide +kernel) (iS (by repeat constructor)) rfl ⟨rfl, g_loadA rfl (.mk rfl rfl) rfl rfl (rdr_vec (cs := [iv (nth q j).1, iv (nth q j).2]) (by repeat constructor) (by omega) g2)⟩ ?_
       refine uP 10 rfl (by decide +kernel) (.inr (iS (by repeat constructor))) rfl rfl ?_
       refine uP 11 rfl (by decide +kernel) (.inr (iS (by repeat constructor))) rfl rfl ?_
       refine WB.one 12 (by decide +kernel) rfl rfl ?_
       refine WL1.give rfl (g_indexAddr (sz := 2) rfl (.mk rfl rfl) (.mk rfl rfl) rfl rfl rfl (by omega) (fun w hw => vec_some hw (.head _) (by omega))) ?_
       refine WL.nil ?_
       refine ⟨.inr (iS (by repeat constructor)), ?_⟩
       refine uB 13 rfl (by decide +kernel) (iS (by repeat constructor)) rfl ⟨rfl, g_loadA rfl (.mk rfl rfl) rfl rfl (rdr_vec (cs := [iv (nth q (j + 1)).1, iv (nth q (j + 1)).2]) (by repeat constructor) (by omega) g1)⟩ ?_
       refine uB 14 rfl (by decide +kernel) (iS (by repeat constructor)) rfl ⟨rfl, g_indexAddr (sz := 2) rfl (.mk rfl rfl) (.mk rfl rfl) rfl rfl rfl (by omega) (fun w hw => vec_some hw (.head _) (by omega))⟩ ?_
       refine WB.one 15 (by decide +kernel) rfl rfl ?_
       refine WL1.storeVA (xs := mes q) (vs := [iv (nth q j).1, iv (nth q j).2]) rfl rfl (.mk rfl rfl) (.mk rfl rfl) rfl (all1 rfl) (Nat.le_of_ble_eq_true rfl) (by show (j + 1) * 2 + 2 ≤ _; omega) (by repeat (first | exact .head | apply Swap.tail)) ?_
       refine WL.nil ?_
       refine ⟨.inl (by decide +kernel), ?_⟩
       refine WB.one 16 (by decide +kernel) rfl rfl ?_
       refine WL1.give rfl (g_indexAddr (sz := 2) rfl (.mk rfl rfl) (.mk rfl rfl) rfl rfl rfl (by omega) (fun w hw => vec_some hw (.head _) (by omega))) ?_
       refine WL.nil ?_
       refine ⟨.inl (by decide +kernel), ?_⟩
       refine WB.one 17 (by decide +kernel) rfl rfl ?_
       refine WL1.storeVA (xs := spl (mes q) ((j + 1) * 2) [iv (nth q j).1, iv (nth q j).2]) (vs := [iv (nth q (j + 1)).1, iv (nth q (j + 1)).2]) rfl rfl (.mk rfl rfl) (.mk rfl rfl) rfl (all1 rfl) (Nat.le_of_ble_eq_true rfl) (by show j * 2 + 2 ≤ _; omega) (by repeat (first | exact .head | apply Swap.tail)) ?_
       refine WL.nil ?_
       refine ⟨.inl (by decide +kernel), ?_⟩
       refine WB.done (by decide +kernel) ?_
       (refine hK _ _ ?_; clear hK)
       refine WC.region rfl ?_
       refine jm rfl rfl ?_
       refine wG rfl rfl (g_sub rfl (.mk rfl rfl) (.mk rfl rfl) hsub) ?_
       refine jm rfl rfl ?_
       refine WL.nil ?_
       refine ⟨j, (q.set (j + 1) (nth q j)).set j (nth q (j + 1)), (by repeat (first | exact trivial | refine ⟨rfl, ?_⟩)), ?_, ⟨by omega, by rw [List.length_set, List.length_set, hql], hps3, hq3⟩, by omega⟩
       rw [← hst _ _ rfl rfl]
       exact Imp.refl _
     · have hq3 : q = isoP l (i + 1) := by
         rw [← hq, insP, blt_iff, decide_eq_false hb]; rfl
       refine WC.seq fun K hK => ?_
       refine WC.seq fun K hK => ?_
       refine WC.quiet rfl (by kernel_rfl) (by decide +kernel) ?_
       iterate 2 refine ym rfl rfl ?_
       refine yt rfl rfl (by omega) ?_
       refine ym rfl rfl ?_
       iterate 3 refine Zm rfl rfl ?_
       refine ZW rfl (WQ1.give rfl (g_indexAddr (sz := 2) rfl (.mk rfl rfl) (.mk rfl rfl) rfl rfl rfl (by omega) (fun w hw => vec_some hw (.head _) (by omega))) ?_)
       refine ZW rfl (WQ1.give rfl (g_loadA rfl (.mk rfl rfl) rfl rfl (rdr_vec (cs := [iv (nth q (j + 1)).1, iv (nth q (j + 1)).2]) (by repeat constructor) (by omega) g1)) ?_)
       iterate 2 refine Zm rfl rfl ?_
       refine ZW rfl (WQ1.give rfl (g_sub rfl (.mk rfl rfl) (.mk rfl rfl) hsub) ?_)
       refine ZW rfl (WQ1.give rfl (g_indexAddr (sz := 2) rfl (.mk rfl rfl) (.mk rfl rfl) rfl rfl rfl (by omega) (fun w hw => vec_some hw (.head _) (by omega))) ?_)
       refine ZW rfl (WQ1.give rfl (g_loadA rfl (.mk rfl rfl) rfl rfl (rdr_vec (cs := [iv (nth q j).1, iv (nth q j).2]) (by repeat constructor) (by omega) g2)) ?_)
       refine ZW rfl (WQ1.callVP rfl rfl (.mk rfl rfl) rfl (.cons (.mk (v := .agg _) rfl rfl) (.cons (.mk (v := .agg _) rfl rfl) .nil)) (fun w hw => hle w) ?_)
       refine Zf rfl rfl (by omega) ?_
       refine ym rfl rfl ?_
       refine WQ.nil ?_
       (refine hK _ _ ?_; clear hK)
       refine uF rfl rfl ?_
       refine WC.exit ?_
       (clear hK; refine hK _ _ ?_; clear hK)
       refine WC.region rfl ?_
       refine jm rfl rfl ?_
       refine ji rfl rfl (by omega) ?_
       refine jm rfl rfl ?_
       refine WL.nil ?_
       exact ⟨i + 1, (by repeat (first | exact trivial | refine ⟨rfl, ?_⟩)), by rw [← hq3]; exact Imp.refl _, ⟨by omega, by omega, by rw [← hq3]; exact hpq⟩, by omega⟩
 · have hfin : isoP l i = isortP l := by
     unfold isortP
     rw [hl]
     by_cases e : i = m
     · rw [e]
     · have : m = 0 := by omega
       have h1 : i = 1 := by omega
       rw [this, h1, isoP_one]; rfl
   refine WC.seq fun K hK => ?_
   refine uS rfl fun K hK => ?_
   iterate 2 refine jm rfl rfl ?_
   refine jf rfl rfl (by omega) ?_
   refine wN hK ?_; clear hK
   refine uF rfl rfl ?_
   refine WC.exit ?_
   exact fun w' hw' => ⟨_, _, rfl, hw', rfl, by rw [hfin]⟩
set_option maxHeartbeats 4000000 in
theorem hpdq_f {w0 w : World} {L0 : List Asrt} {A : Option Addr} {c m : Nat} {z : Int} {l : List (Nat × Nat)} (hl : l.length = m) (hm : m ≤ 12) (hsm : PSm l) (hw : H w0 (vec A m c HPT 2 (mes l) :: L0) w) :
   Calls Tryz.prog 182 #[.slice A m c, iv 0, iv m, iv z, hpF] w fun e w' => ∃ v L', e = .returned v ∧ H w0 L' w' ∧ v = .tuple #[] ∧ L' = vec A m c HPT 2 (mes (isortP l)) :: L0 := by
 refine calls_wc (args := [.slice A m c, iv 0, iv m, iv z, hpF]) [] (vec A m c HPT 2 (mes l) :: L0) Tryz.func182 rfl Tryz.ntmps182 rfl rfl rfl rfl hw ?_
 refine uS rfl fun K hK => ?_
 refine jm rfl rfl ?_
 refine wN hK ?_; clear hK
 refine uS rfl fun K hK => ?_
 refine jm rfl rfl ?_
 refine wN hK ?_; clear hK
 refine WC.block ?_
 refine WC.loopF (fun _ : Nat => [(0, .slice A m c), (1, iv 0), (2, iv m), (3, iv z), (4, hpF)]) (fun _ => vec A m c HPT 2 (mes l) :: L0) (fun i => i = 0) (fun i => i) 0 (by repeat (first | exact trivial | refine ⟨rfl, ?_⟩)) (Imp.refl _) rfl ?_
 intro i U hi
 refine WC.block ?_
 refine uS rfl fun K hK => ?_
 iterate 2 refine jm rfl rfl ?_
 refine ji rfl rfl (by omega) ?_
 refine jm rfl rfl ?_
 refine wN hK ?_; clear hK
 refine WC.seq fun K hK => ?_
 refine uS rfl fun K hK => ?_
 refine jm rfl rfl ?_
 refine jt rfl rfl (by omega) ?_
 refine wN hK ?_; clear hK
 refine uT rfl rfl ?_
 refine uS rfl fun K hK => ?_
 iterate 4 refine jm rfl rfl ?_
 (refine WL.want rfl (WL1.callF rfl rfl rfl (.cons (.mk (v := .slice _ _ _) rfl rfl) (.cons (.mk (v := .int _ _) rfl rfl) (.cons (.mk (v := .int _ _) rfl rfl) (.cons (.mk (v := .func _ _ _) rfl rfl) .nil)))) (fun w hw => hinsort_f (l := l) hl (by omega) hsm hw) ?_); rintro _ _ ⟨rfl, rfl⟩)
 refine wN hK ?_; clear hK
 refine WC.ret ?_
 exact fun w' hw' => ⟨_, _, rfl, hw', rfl, rfl⟩
set_option maxHeartbeats 4000000 in
theorem hsort_f {w0 w : World} {L0 : List Asrt} {A : Option Addr} {c m : Nat} {l : List (Nat × Nat)} (hl : l.length = m) (hm : m ≤ 12) (hsm : PSm l) (hw : H w0 (vec A m c HPT 2 (mes l) :: L0) w) :
   Calls Tryz.prog 152 #[.slice A m c, hpF] w fun e w' => ∃ v L', e = .returned v ∧ H w0 L' w' ∧ v = .tuple #[] ∧ L' = vec A m c HPT 2 (mes (isortP l)) :: L0 := by
 have hcv : IntKind.u64.wrap (m : Int) = (m : Int) := IntWalk.u64_in _ (by omega)
 refine calls_wc (args := [.slice A m c, hpF]) [] (vec A m c HPT 2 (mes l) :: L0) Tryz.func152 rfl Tryz.ntmps152 rfl rfl rfl rfl hw ?_
 refine uS rfl fun K hK => ?_
 refine jm rfl rfl ?_
 refine jn rfl rfl rfl ?_
 refine jm rfl rfl ?_
 refine wN hK ?_; clear hK
 refine WC.region rfl ?_
 iterate 3 refine jm rfl rfl ?_
 refine wG rfl rfl (g_conv rfl rfl rfl (.mk rfl rfl) hcv) ?_
 refine WL.want rfl (WL1.callP rfl rfl rfl (.cons (.mk (v := .int _ _) rfl rfl) .nil) (fun w hw => blen_e m w (by omega)) ?_)
 refine jm rfl rfl ?_
 (refine WL.want rfl (WL1.callF rfl rfl rfl (.cons (.mk (v := .slice _ _ _) rfl rfl) (.cons (.mk (v := .int _ _) rfl rfl) (.cons (.mk (v := .int _ _) rfl rfl) (.cons (.mk (v := .int _ _) rfl rfl) (.cons (.mk (v := .func _ _ _) rfl rfl) .nil))))) (fun w hw => hpdq_f (l := l) hl hm hsm hw) ?_); rintro _ _ ⟨rfl, rfl⟩)
 refine WL.nil ?_
 exact fun w' hw' => ⟨_, _, rfl, hw', rfl, rfl⟩
end Go.Proofs.YtdcijljfgcjelaaGreat
namespace Go.Proofs.YtdcijljfgcjelaaGreat
set_option maxRecDepth 20000
open Go.RowKit
attribute [local irreducible] Calls
def hp0 (gs : List (List Nat)) (n k : Nat) (ms : List Mv) (dl : List Bool) (G : Nat) : Nat → List (Nat × Nat)
 | 0 => []
 | i + 1 => cond (nth dl (whD gs n k ms G i)) (hp0 gs n k ms dl G i) (hp0 gs n k ms dl G i ++ [(whD gs n k ms G i, i)])
def lfN (T len : Nat) : Nat → Nat
 | 0 => 0
 | j + 1 => lfN T len j ||| 2 ^ ((T + j) % len)
def frF (l : List (Nat × Nat)) (left : Nat) : Nat → List Nat
 | 0 => []
 | q + 1 => cond (Nat.beq (left / 2 ^ q % 2) 0) (frF l left q ++ [(nth l q).2]) (frF l left q)
def hlpL (gs : List (List Nat)) (n k : Nat) (ms : List Mv) (dl : List Bool) (G : Nat) : List Nat :=
 isort (frF (isortP (hp0 gs n k ms dl G k)) (lfN (G / n) (hp0 gs n k ms dl G k).length ((hp0 gs n k ms dl G k).length - (k - 3))) (hp0 gs n k ms dl G k).length)
theorem hp0_len (gs : List (List Nat)) (n k : Nat) (ms : List Mv) (dl : List Bool) (G : Nat) : ∀ i, (hp0 gs n k ms dl G i).length ≤ i
 | 0 => Nat.le_refl _
 | i + 1 => by
   have ih := hp0_len gs n k ms dl G i
   rw [hp0]
   cases nth dl (whD gs n k ms G i) with
   | true => rw [cond_true]; omega
   | false => rw [cond_false, List.length_append]; show _ + 1 ≤ _; omega
theorem hp0_sm {gs : List (List Nat)} {n k : Nat} {ms : List Mv} {dl : List Bool} {G : Nat} (h : ∀ i, i < k → whD gs n k ms G i ≤ 100000) : ∀ i, i ≤ k → PSm (hp0 gs n k ms dl G i)
 | 0, _ => fun j hj => by simp [hp0] at hj
 | i + 1, hi => by
   have ih := hp0_sm (dl := dl) h i (by omega)
   rw [hp0]
   cases nth dl (whD gs n k ms G i) with
   | true => rw [cond_true]; exact ih
   | false =>
     rw [cond_false]
     intro j hj
     rw [List.length_append] at hj
     by_cases e : j < (hp0 gs n k ms dl G i).length
     · rw [nth_eq (by rw [List.length_append]; omega), List.getElem_append_left e, ← nth_eq e]; exact ih j e
     · rw [nth_eq (by rw [List.length_append]; exact hj), List.getElem_append_right (by omega)]
       have : j - (hp0 gs n k ms dl G i).length = 0 := by simp at hj; omega
       simp only [this, List.getElem_cons_zero]
       exact h i (by omega)
theorem lfN_lt {T len : Nat} (h1 : 1 ≤ len) (h : len ≤ 16) : ∀ j, lfN T len j < 2 ^ 16
 | 0 => Nat.pow_pos (by omega)
 | j + 1 => Nat.or_lt_two_pow (lfN_lt h1 h j) (Nat.pow_lt_pow_right (by omega) (by have := Nat.mod_lt (T + j) (show 0 < len by omega); omega))
theorem frF_len (l : List (Nat × Nat)) (left : Nat) : ∀ q, (frF l left q).length ≤ q
 | 0 => Nat.le_refl _
 | q + 1 => by
   have ih := frF_len l left q
   rw [frF]
   cases Nat.beq (left / 2 ^ q % 2) 0 with
   | true => rw [cond_true, List.length_append]; show _ + 1 ≤ _; omega
   | false => rw [cond_false]; omega
variable {v k r lam t s : Nat} {A : Option Addr} {c : Nat} {rs : List IRow} {M : Option Addr} {mc m : Nat} {ms : List Mv}
abbrev plC (v : Nat) (A : Option Addr) (c : Nat) (rs : List IRow) (t s : Nat) (M : Option Addr) (mc m : Nat) (Dd : Option Addr) (dc : Nat) : List Value := [iv v, .slice A rs.length c, iv t, iv s, .slice M m mc, .slice Dd v dc]
set_option maxHeartbeats 16000000 in
theorem helpers_n {G bp dc : Nat} {Dd : Option Addr} {dl : List Bool} (w : World) (hy : Lay v k r lam (ils rs) t s) (hm : IMat w (.slice A rs.length c) rs) (hM : Sl w 4 (.slice M m mc) m (mvs ms)) (hl : ms.length = m) (hs1 : 1 ≤ s) (hk12 : k ≤ 12) (ho : MOk v k r t rs.length s (ils rs) ms) (hG : G < t * rs.length)
   (hD : Sl w 1 (.slice Dd v dc) v (bls dl)) (hdl : dl.length = v) (hpS : Sl w 6 (.slice (some ⟨bp, 0, none⟩) 1 1) 1 (plC v A c rs t s M mc m Dd dc)) (hwv : ∀ i, i < k → whD (ils rs) rs.length k ms G i < v) (hln : k - 3 ≤ (hp0 (ils rs) rs.length k ms dl G k).length) :
   Calls Tryz.prog 105 #[cellPtr (some ⟨bp, 0, none⟩) 0, iv G] w fun e w' => ∃ u N, e = .returned u ∧ H w N w' ∧ ∃ F fc, u = .tuple #[.slice F (hlpL (ils rs) rs.length k ms dl G).length fc, iv 0] ∧ N = [vec F (hlpL (ils rs) rs.length k ms dl G).length fc 3 1 (ldv (hlpL (ils rs) rs.length k ms dl G))] := by
 have hgrp := hy.grp'
 have hk4 := hy.k4
 have hv60 := hy.d.v60
 have hn1 := hy.d.cnt.1
 have hwi := fun w' hb => lwidth_e w' hy (hm.below (w' := w') hb)
 have hda := fun w' hb => ldata_e w' hy (hm.below (w' := w') hb)
 have hwh := fun w' hb i hi => mwhere_e (G := G) (p := i) w' hy (hm.below (w' := w') hb) (hM.below hb) hl hs1 hk12 ho hG hi
 have hps := hp0_sm (gs := ils rs) (n := rs.length) (k := k) (ms := ms) (dl := dl) (G := G) (fun i hi => by have := hwv i hi; omega) k (Nat.le_refl _)
 have hhl := hp0_len (ils rs) rs.length k ms dl G
 have hsn : ∀ i, hp0 (ils rs) rs.length k ms dl G (i + 1) = cond (nth dl (whD (ils rs) rs.length k ms G i)) (hp0 (ils rs) rs.length k ms dl G i) (hp0 (ils rs) rs.length k ms dl G i ++ [(whD (ils rs) rs.length k ms G i, i)]) := fun _ => rfl
 have hh0 : hp0 (ils rs) rs.length k ms dl G 0 = [] := rfl
 have gL : ∀ j u, [iv v, .slice A rs.length c, iv t, iv s][j]? = some u → (plC v A c rs t s M mc m Dd dc)[0 + 0 + j]? = some u := fun j u h => pre_get (es := [.slice M m mc, .slice Dd v dc]) (by omega) h
 have hT : G / rs.length ≤ 4096 := Nat.le_trans (Nat.div_le_self _ _) (by omega)
 have q1 : IntKind.i64.wrap ((G : Int).tdiv (rs.length : Nat)) = ((G / rs.length : Nat) : Int) := by
   rw [show (G : Int).tdiv (rs.length : Nat) = ((G / rs.length : Nat) : Int) from rfl]
   generalize G / rs.length = T at hT ⊢
   exact IntWalk.i64_in _ (by omega)
 unfold hlpL
 generalize G / rs.length = T at *
 generalize hp0 (ils rs) rs.length k ms dl G = hp at *
 generalize hwd : whD (ils rs) rs.length k ms G = wd at *
 refine calls_wc (args := [cellPtr (some ⟨bp, 0, none⟩) 0, iv G]) [4, 5] [] Tryz.func105 rfl Tryz.ntmps105 rfl rfl rfl rfl (H.refl _) ?_
 refine uS rfl fun K hK => ?_
 iterate 2 refine jm rfl rfl ?_
 refine wN hK ?_; clear hK
 refine uS rfl fun K hK => ?_
 refine jp rfl rfl rfl ?_
 refine wG rfl rfl (g_nilCheck rfl (.mk rfl rfl) (fun _ _ => rfl)) ?_
 refine ja 0 rfl rfl rfl rfl ?_
 refine wG rfl rfl (g_loadA rfl (.mk rfl rfl) rfl rfl (rdr_sl (cs := [iv v, .slice A rs.length c, iv t, iv s]) hpS (by omega) gL)) ?_
 refine WL.want rfl (WL1.callP rfl rfl rfl (.cons (.mk (v := .agg _) rfl rfl) .nil) (fun w hw => hwi w hw.1) ?_)
 refine jm rfl rfl ?_
 refine wN hK ?_; clear hK
 refine uS rfl fun K hK => ?_
 refine jm rfl rfl ?_
 refine wN hK ?_; clear hK
 refine WC.seq fun K hK => ?_
 refine uS rfl fun K hK => ?_
 iterate 2 refine jm rfl rfl ?_
 refine wN hK ?_; clear hK
 refine WC.block ?_
 refine WC.nilvec HPT 2 ?_
 
 refine WC.loopF3 (fun (i : Nat) (F : Option Addr) (fc : Nat) => [(24, iv i), (23, iv k), (7, .slice F (hp i).length fc), (0, cellPtr (some ⟨bp, 0, none⟩) 0), (1, iv G)]) (fun i F fc => [vec F (hp i).length fc HPT 2 (mes (hp i))]) (fun i _ _ => i ≤ k) (fun i _ _ => k - i) 0 none 0 (by rw [hh0]; exact (by repeat (first | exact trivial | refine ⟨rfl, ?_⟩))) (by rw [hh0]; exact Imp.pick (by repeat constructor) (Imp.nil _)) (by omega) ?_
 intro i F fc U hi
 by_cases hlt : i < k
 · have hwi2 := fun w' hb => hwh w' hb i hlt
   have hdv := hwv i hlt
   have hli := hhl i
   have hsi := hsn i
   have gD := bls_get (l := dl) (k := wd i) (by omega)
   generalize whB (ils rs) rs.length k r ms G i = wb at *
   generalize wd i = d at *
   cases hdd : nth dl d with
   | true =>
     rw [hdd] at gD hsi
     rw [cond_true] at hsi
     refine uS rfl fun K hK => ?_
     refine jt rfl rfl (by omega) ?_
     refine wN hK ?_; clear hK
     refine WC.seq fun K hK => ?_
     refine uT rfl rfl ?_
     refine WC.skip ?_
     (refine hK _ _ ?_; clear hK)
     refine WC.seq fun K hK => ?_
     refine WC.block ?_
     refine uS rfl fun K hK => ?_
     iterate 2 refine jm rfl rfl ?_
     refine wN hK ?_; clear hK
     refine WC.seq fun K hK => ?_
     refine WC.untilL [15, 16] rfl (by kernel_rfl) ?_
     refine uG 0 rfl (by decide +kernel) (.inr (iS (by repeat constructor))) rfl (Gp rfl rfl) ?_
     refine uG 1 rfl (by decide +kernel) (.inr (iS (by repeat constructor))) rfl ⟨rfl, g_nilCheck rfl (.mk rfl rfl) (fun _ _ => rfl)⟩ ?_
     refine uG 2 rfl (by decide +kernel) (.inr (iS (by repeat constructor))) rfl (Ga 0 rfl rfl rfl) ?_
     refine uB 3 rfl (by decide +kernel) (iS (by repeat constructor)) rfl ⟨rfl, g_loadA rfl (.mk rfl rfl) rfl rfl (rdr_sl (cs := [iv v, .slice A rs.length c, iv t, iv s]) hpS (by omega) gL)⟩ ?_
     refine uG 4 rfl (by decide +kernel) (.inr (iS (by repeat constructor))) rfl (Gp rfl rfl) ?_
     refine uG 5 rfl (by decide +kernel) (.inr (iS (by repeat constructor))) rfl ⟨rfl, g_nilCheck rfl (.mk rfl rfl) (fun _ _ => rfl)⟩ ?_
     refine uG 6 rfl (by decide +kernel) (.inr (iS (by repeat constructor))) rfl (Ga 4 rfl rfl rfl) ?_
     refine uB 7 rfl (by decide +kernel) (iS (by repeat constructor)) rfl (Gl rfl rfl (rd_sl hpS rfl)) ?_
     refine uP 8 rfl (by decide +kernel) (.inr (iS (by repeat constructor))) rfl rfl ?_
     refine uP 9 rfl (by decide +kernel) (.inr (iS (by repeat constructor))) rfl rfl ?_
     refine WB.two 10 14 (by decide +kernel) rfl rfl rfl rfl ?_ ?_
     refine WL1.callP rfl rfl rfl (.cons (.mk (v := .agg _) rfl rfl) (.cons (.mk (v := .slice _ _ _) rfl rfl) (.cons (.mk (v := .int _ _) rfl rfl) (.cons (.mk (v := .int _ _) rfl rfl) .nil)))) (fun w hw => hwi2 w hw.1) ?_
     refine WL.nil ?_
     refine ⟨.inr (iS (by repeat constructor)), ?_⟩
     refine uP 11 rfl (by decide +kernel) (.inr (iS (by repeat constructor))) rfl rfl ?_
     refine uP 12 rfl (by decide +kernel) (.inr (iS (by repeat constructor))) rfl rfl ?_
     refine uP 13 rfl (by decide +kernel) (.inr (iS (by repeat constructor))) rfl rfl ?_
     refine WB.one 14 (by decide +kernel) rfl rfl ?_
     refine WL1.alloc rfl rfl rfl rfl (fun b9 => ?_)
     refine WL.nil ?_
     refine ⟨.inr (iS (by repeat constructor)), ?_⟩
     refine WB.one 15 (by decide +kernel) rfl rfl ?_
     refine WL1.storeAll rfl rfl (.mk rfl rfl) (.mk rfl rfl) rfl (all1 rfl) (by first | rfl | (simp [Blk.len]; done)) (.head) ?_
     refine WL.nil ?_
     refine ⟨.inl (by decide +kernel), ?_⟩
     refine WB.one 16 (by decide +kernel) rfl rfl ?_
     refine WL1.give rfl (g_assign rfl (.mk (v := .int _ _) rfl rfl)) ?_
     refine WL.nil ?_
     refine ⟨.inl (by decide +kernel), ?_⟩
     refine WB.done (by decide +kernel) ?_
     (refine hK _ _ ?_; clear hK)
     refine WC.seq fun K hK => ?_
     refine WC.quiet rfl (by kernel_rfl) (by decide +kernel) ?_
     refine yp rfl rfl rfl ?_
     refine WQ.want rfl (WQ1.give rfl (g_nilCheck rfl (.mk rfl rfl) (fun _ _ => rfl)) ?_)
     refine ya 5 rfl rfl rfl rfl ?_
     refine yl rfl rfl rfl (rd_sl hpS rfl) ?_
     refine ya 0 rfl rfl rfl rfl ?_
     refine yl rfl rfl rfl (rd_pt (.head _) rfl) ?_
     refine WQ.want rfl (WQ1.give rfl (g_indexAddr (sz := 1) rfl (.mk rfl rfl) (.mk rfl rfl) rfl rfl rfl (by omega) (fun _ _ => sl_some hD (by omega))) ?_)
     refine yl rfl rfl rfl (rd_sl hD gD) ?_
     refine ym rfl rfl ?_
     refine WQ.nil ?_
     (refine hK _ _ ?_; clear hK)
     refine uF rfl rfl ?_
     refine WC.skip ?_
     (refine hK _ _ ?_; clear hK)
     refine WC.region rfl ?_
     refine ji rfl rfl (by omega) ?_
     refine jm rfl rfl ?_
     refine WL.nil ?_
     rotate_left
     refine WL1.alloc rfl rfl rfl rfl (fun b9 => ?_)
     refine WL.nil ?_
     refine ⟨.inr (iS (by repeat constructor)), ?_⟩
     refine WB.one 10 (by decide +kernel) rfl rfl ?_
     refine WL1.callP rfl rfl rfl (.cons (.mk (v := .agg _) rfl rfl) (.cons (.mk (v := .slice _ _ _) rfl rfl) (.cons (.mk (v := .int _ _) rfl rfl) (.cons (.mk (v := .int _ _) rfl rfl) .nil)))) (fun w hw => hwi2 w hw.1) ?_
     refine WL.nil ?_
     refine ⟨.inr (iS (by repeat constructor)), ?_⟩
     refine uP 11 rfl (by decide +kernel) (.inr (iS (by repeat constructor))) rfl rfl ?_
     refine uP 12 rfl (by decide +kernel) (.inr (iS (by repeat constructor))) rfl rfl ?_
     refine uP 13 rfl (by decide +kernel) (.inr (iS (by repeat constructor))) rfl rfl ?_
     refine WB.one 15 (by decide +kernel) rfl rfl ?_
     refine WL1.storeAll rfl rfl (.mk rfl rfl) (.mk rfl rfl) rfl (all1 rfl) (by first | rfl | (simp [Blk.len]; done)) (.head) ?_
     refine WL.nil ?_
     refine ⟨.inl (by decide +kernel), ?_⟩
     refine WB.one 16 (by decide +kernel) rfl rfl ?_
     refine WL1.give rfl (g_assign rfl (.mk (v := .int _ _) rfl rfl)) ?_
     refine WL.nil ?_
     refine ⟨.inl (by decide +kernel), ?_⟩
     refine WB.done (by decide +kernel) ?_
     (refine hK _ _ ?_; clear hK)
     refine WC.seq fun K hK => ?_
     refine WC.quiet rfl (by kernel_rfl) (by decide +kernel) ?_
     refine yp rfl rfl rfl ?_
     refine WQ.want rfl (WQ1.give rfl (g_nilCheck rfl (.mk rfl rfl) (fun _ _ => rfl)) ?_)
     refine ya 5 rfl rfl rfl rfl ?_
     refine yl rfl rfl rfl (rd_sl hpS rfl) ?_
     refine ya 0 rfl rfl rfl rfl ?_
     refine yl rfl rfl rfl (rd_pt (.head _) rfl) ?_
     refine WQ.want rfl (WQ1.give rfl (g_indexAddr (sz := 1) rfl (.mk rfl rfl) (.mk rfl rfl) rfl rfl rfl (by omega) (fun _ _ => sl_some hD (by omega))) ?_)
     refine yl rfl rfl rfl (rd_sl hD gD) ?_
     refine ym rfl rfl ?_
     refine WQ.nil ?_
     (refine hK _ _ ?_; clear hK)
     refine uF rfl rfl ?_
     refine WC.skip ?_
     (refine hK _ _ ?_; clear hK)
     refine WC.region rfl ?_
     refine ji rfl rfl (by omega) ?_
     refine jm rfl rfl ?_
     refine WL.nil ?_
     rotate_left
     all_goals exact ⟨i + 1, F, fc, by rw [hsi]; exact (by repeat (first | exact trivial | refine ⟨rfl, ?_⟩)), by rw [hsi]; exact Imp.pick (by repeat constructor) (Imp.nil _), by omega, by omega⟩
   | false =>
     rw [hdd] at gD hsi
     rw [cond_false] at hsi
     refine uS rfl fun K hK => ?_
     refine jt rfl rfl (by omega) ?_
     refine wN hK ?_; clear hK
     refine WC.seq fun K hK => ?_
     refine uT rfl rfl ?_
     refine WC.skip ?_
     (refine hK _ _ ?_; clear hK)
     refine WC.seq fun K hK => ?_
     refine WC.block ?_
     refine uS rfl fun K hK => ?_
     iterate 2 refine jm rfl rfl ?_
     refine wN hK ?_; clear hK
     refine WC.seq fun K hK => ?_
     refine WC.untilL [15, 16] rfl (by kernel_rfl) ?_
     refine uG 0 rfl (by decide +kernel) (.inr (iS (by repeat constructor))) rfl (Gp rfl rfl) ?_
     refine uG 1 rfl (by decide +kernel) (.inr (iS (by repeat constructor))) rfl ⟨rfl, g_nilCheck rfl (.mk rfl rfl) (fun _ _ => rfl)⟩ ?_
     refine uG 2 rfl (by decide +kernel) (.inr (iS (by repeat constructor))) rfl (Ga 0 rfl rfl rfl) ?_
     refine uB 3 rfl (by decide +kernel) (iS (by repeat constructor)) rfl ⟨rfl, g_loadA rfl (.mk rfl rfl) rfl rfl (rdr_sl (cs := [iv v, .slice A rs.length c, iv t, iv s]) hpS (by omega) gL)⟩ ?_
     refine uG 4 rfl (by decide +kernel) (.inr (iS (by repeat constructor))) rfl (Gp rfl rfl) ?_
     refine uG 5 rfl (by decide +kernel) (.inr (iS (by repeat constructor))) rfl ⟨rfl, g_nilCheck rfl (.mk rfl rfl) (fun _ _ => rfl)⟩ ?_
     refine uG 6 rfl (by decide +kernel) (.inr (iS (by repeat constructor))) rfl (Ga 4 rfl rfl rfl) ?_
     refine uB 7 rfl (by decide +kernel) (iS (by repeat constructor)) rfl (Gl rfl rfl (rd_sl hpS rfl)) ?_
     refine uP 8 rfl (by decide +kernel) (.inr (iS (by repeat constructor))) rfl rfl ?_
     refine uP 9 rfl (by decide +kernel) (.inr (iS (by repeat constructor))) rfl rfl ?_
     refine WB.two 10 14 (by decide +kernel) rfl rfl rfl rfl ?_ ?_
     refine WL1.callP rfl rfl rfl (.cons (.mk (v := .agg _) rfl rfl) (.cons (.mk (v := .slice _ _ _) rfl rfl) (.cons (.mk (v := .int _ _) rfl rfl) (.cons (.mk (v := .int _ _) rfl rfl) .nil)))) (fun w hw => hwi2 w hw.1) ?_
     refine WL.nil ?_
     refine ⟨.inr (iS (by repeat constructor)), ?_⟩
     refine uP 11 rfl (by decide +kernel) (.inr (iS (by repeat constructor))) rfl rfl ?_
     refine uP 12 rfl (by decide +kernel) (.inr (iS (by repeat constructor))) rfl rfl ?_
     refine uP 13 rfl (by decide +kernel) (.inr (iS (by repeat constructor))) rfl rfl ?_
     refine WB.one 14 (by decide +kernel) rfl rfl ?_
     refine WL1.alloc rfl rfl rfl rfl (fun b9 => ?_)
     refine WL.nil ?_
     refine ⟨.inr (iS (by repeat constructor)), ?_⟩
     refine WB.one 15 (by decide +kernel) rfl rfl ?_
     refine WL1.storeAll rfl rfl (.mk rfl rfl) (.mk rfl rfl) rfl (all1 rfl) (by first | rfl | (simp [Blk.len]; done)) (.head) ?_
     refine WL.nil ?_
     refine ⟨.inl (by decide +kernel), ?_⟩
     refine WB.one 16 (by decide +kernel) rfl rfl ?_
     refine WL1.give rfl (g_assign rfl (.mk (v := .int _ _) rfl rfl)) ?_
     refine WL.nil ?_
     refine ⟨.inl (by decide +kernel), ?_⟩
     refine WB.done (by decide +kernel) ?_
     (refine hK _ _ ?_; clear hK)
     refine WC.seq fun K hK => ?_
     refine WC.quiet rfl (by kernel_rfl) (by decide +kernel) ?_
     refine yp rfl rfl rfl ?_
     refine WQ.want rfl (WQ1.give rfl (g_nilCheck rfl (.mk rfl rfl) (fun _ _ => rfl)) ?_)
     refine ya 5 rfl rfl rfl rfl ?_
     refine yl rfl rfl rfl (rd_sl hpS rfl) ?_
     refine ya 0 rfl rfl rfl rfl ?_
     refine yl rfl rfl rfl (rd_pt (.head _) rfl) ?_
     refine WQ.want rfl (WQ1.give rfl (g_indexAddr (sz := 1) rfl (.mk rfl rfl) (.mk rfl rfl) rfl rfl rfl (by omega) (fun _ _ => sl_some hD (by omega))) ?_)
     refine yl rfl rfl rfl (rd_sl hD gD) ?_
     refine ym rfl rfl ?_
     refine WQ.nil ?_
     (refine hK _ _ ?_; clear hK)
     refine uT rfl rfl ?_
     refine WC.region rfl ?_
     refine jm rfl rfl ?_
     refine ja 0 rfl rfl rfl rfl ?_
     refine jl rfl rfl rfl (rd_pt (.head _) rfl) ?_
     refine jm rfl rfl ?_
     refine wG rfl rfl (g_build (cs := [_, _]) rfl rfl rfl rfl (.cons (.mk (v := .int _ _) rfl rfl) (.cons (.mk (v := .int _ _) rfl rfl) .nil)) rfl rfl rfl) ?_
     refine WL.want rfl (WL1.lit (cs := [_, _]) elHp rfl rfl rfl (.cons (.mk (v := .agg _) rfl rfl) .nil) rfl (by first | (simp [Value.cells]; done) | fail) rfl rfl (fun b55 => ?_))
     refine WL.want rfl (WL1.append elHp rfl rfl (.mk rfl rfl) (.mk rfl rfl) (.tail (.tail (.head))) (fun w hw => Sl.of_vec hw (.head _)) (all1 rfl) (by unfold maxLen; omega) (by omega) (fun A56 c56 => ?_))
     refine jm rfl rfl ?_
     refine wN hK ?_; clear hK
     refine WC.region rfl ?_
     refine ji rfl rfl (by omega) ?_
     refine jm rfl rfl ?_
     refine WL.nil ?_
     rotate_left
     refine WL1.alloc rfl rfl rfl rfl (fun b9 => ?_)
     refine WL.nil ?_
     refine ⟨.inr (iS (by repeat constructor)), ?_⟩
     refine WB.one 10 (by decide +kernel) rfl rfl ?_
     refine WL1.callP rfl rfl rfl (.cons (.mk (v := .agg _) rfl rfl) (.cons (.mk (v := .slice _ _ _) rfl rfl) (.cons (.mk (v := .int _ _) rfl rfl) (.cons (.mk (v := .int _ _) rfl rfl) .nil)))) (fun w hw => hwi2 w hw.1) ?_
     refine WL.nil ?_
     refine ⟨.inr (iS (by repeat constructor)), ?_⟩
     refine uP 11 rfl (by decide +kernel) (.inr (iS (by repeat constructor))) rfl rfl ?_
     refine uP 12 rfl (by decide +kernel) (.inr (iS (by repeat constructor))) rfl rfl ?_
     refine uP 13 rfl (by decide +kernel) (.inr (iS (by repeat constructor))) rfl rfl ?_
     refine WB.one 15 (by decide +kernel) rfl rfl ?_
     refine WL1.storeAll rfl rfl (.mk rfl rfl) (.mk rfl rfl) rfl (all1 rfl) (by first | rfl | (simp [Blk.len]; done)) (.head) ?_
     refine WL.nil ?_
     refine ⟨.inl (by decide +kernel), ?_⟩
     refine WB.one 16 (by decide +kernel) rfl rfl ?_
     refine WL1.give rfl (g_assign rfl (.mk (v := .int _ _) rfl rfl)) ?_
     refine WL.nil ?_
     refine ⟨.inl (by decide +kernel), ?_⟩
     refine WB.done (by decide +kernel) ?_
     (refine hK _ _ ?_; clear hK)
     refine WC.seq fun K hK => ?_
     refine WC.quiet rfl (by kernel_rfl) (by decide +kernel) ?_
     refine yp rfl rfl rfl ?_
     refine WQ.want rfl (WQ1.give rfl (g_nilCheck rfl (.mk rfl rfl) (fun _ _ => rfl)) ?_)
     refine ya 5 rfl rfl rfl rfl ?_
     refine yl rfl rfl rfl (rd_sl hpS rfl) ?_
     refine ya 0 rfl rfl rfl rfl ?_
     refine yl rfl rfl rfl (rd_pt (.head _) rfl) ?_
     refine WQ.want rfl (WQ1.give rfl (g_indexAddr (sz := 1) rfl (.mk rfl rfl) (.mk rfl rfl) rfl rfl rfl (by omega) (fun _ _ => sl_some hD (by omega))) ?_)
     refine yl rfl rfl rfl (rd_sl hD gD) ?_
     refine ym rfl rfl ?_
     refine WQ.nil ?_
     (refine hK _ _ ?_; clear hK)
     refine uT rfl rfl ?_
     refine WC.region rfl ?_
     refine jm rfl rfl ?_
     refine ja 0 rfl rfl rfl rfl ?_
     refine jl rfl rfl rfl (rd_pt (.head _) rfl) ?_
     refine jm rfl rfl ?_
     refine wG rfl rfl (g_build (cs := [_, _]) rfl rfl rfl rfl (.cons (.mk (v := .int _ _) rfl rfl) (.cons (.mk (v := .int _ _) rfl rfl) .nil)) rfl rfl rfl) ?_
     refine WL.want rfl (WL1.lit (cs := [_, _]) elHp rfl rfl rfl (.cons (.mk (v := .agg _) rfl rfl) .nil) rfl (by first | (simp [Value.cells]; done) | fail) rfl rfl (fun b55 => ?_))
     refine WL.want rfl (WL1.append elHp rfl rfl (.mk rfl rfl) (.mk rfl rfl) (.tail (.tail (.head))) (fun w hw => Sl.of_vec hw (.head _)) (all1 rfl) (by unfold maxLen; omega) (by omega) (fun A56 c56 => ?_))
     refine jm rfl rfl ?_
     refine wN hK ?_; clear hK
     refine WC.region rfl ?_
     refine ji rfl rfl (by omega) ?_
     refine jm rfl rfl ?_
     refine WL.nil ?_
     rotate_left
     all_goals
       have hl2 : (hp (i + 1)).length = (hp i).length + 1 := by rw [hsi, List.length_append]; rfl
       refine ⟨i + 1, A56, c56, by rw [hl2]; exact (by repeat (first | exact trivial | refine ⟨rfl, ?_⟩)), ?_, by omega, by omega⟩
       rw [hl2, hsi, ← mes_snoc]
       exact Imp.pick (by repeat constructor) (Imp.nil _)
 obtain rfl : i = k := by omega
 have hli := hhl i
 have hsl := isortP_len (hp i)
 clear hwh hsn hh0 hwv hhl
 generalize hpi : hp i = l0 at *
 generalize hlen : l0.length = len at *
 obtain ⟨out, hout⟩ : ∃ out, out = len - (i - 3) := ⟨_, rfl⟩
 have hsub : IntKind.i64.wrap ((len : Int) - ((i : Int) - 3)) = (out : Int) := by rw [IntWalk.i64_in _ (by omega)]; omega
 rw [← hout]
 refine uS rfl fun K hK => ?_
 refine jf rfl rfl (by omega) ?_
 refine wN hK ?_; clear hK
 refine WC.seq fun K hK => ?_
 refine uF rfl rfl ?_
 refine WC.exit ?_
 (clear hK; refine hK _ _ ?_; clear hK)
 refine uS rfl fun K hK => ?_
 refine jm rfl rfl ?_
 refine jn rfl rfl rfl ?_
 refine jp rfl rfl rfl ?_
 refine wG rfl rfl (g_nilCheck rfl (.mk rfl rfl) (fun _ _ => rfl)) ?_
 refine ja 0 rfl rfl rfl rfl ?_
 refine wG rfl rfl (g_loadA rfl (.mk rfl rfl) rfl rfl (rdr_sl (cs := [iv v, .slice A rs.length c, iv t, iv s]) hpS (by omega) gL)) ?_
 refine WL.want rfl (WL1.callP rfl rfl rfl (.cons (.mk (v := .agg _) rfl rfl) .nil) (fun w hw => hda w hw.1) ?_)
 refine wG rfl rfl (g_sub rfl (.mk rfl rfl) (.mk rfl rfl) hsub) ?_
 refine jm rfl rfl ?_
 refine wN hK ?_; clear hK
 refine WC.seq fun K hK => ?_
 refine uS rfl fun K hK => ?_
 refine jm rfl rfl ?_
 refine jf rfl rfl (by omega) ?_
 refine wN hK ?_; clear hK
 refine uF rfl rfl ?_
 refine WC.skip ?_
 (refine hK _ _ ?_; clear hK)
 refine uS rfl fun K hK => ?_
 refine jm rfl rfl ?_
 (refine WL.want rfl (WL1.callF rfl rfl rfl (.cons (.mk (v := .slice _ _ _) rfl rfl) (.cons (.mk (v := .func _ _ _) rfl rfl) .nil)) (fun w hw => hsort_f (l := l0) hlen (by omega) hps hw) ?_); rintro _ _ ⟨rfl, rfl⟩)
 refine wN hK ?_; clear hK
 refine uS rfl fun K hK => ?_
 refine jm rfl rfl ?_
 refine jp rfl rfl rfl ?_
 refine wG rfl rfl (g_nilCheck rfl (.mk rfl rfl) (fun _ _ => rfl)) ?_
 iterate 2 refine ja 0 rfl rfl rfl rfl ?_
 refine ja 1 rfl rfl rfl rfl ?_
 refine jl rfl rfl rfl (rd_sl hpS rfl) ?_
 refine jn rfl rfl rfl ?_
 refine wG rfl rfl (g_quo rfl (.mk rfl rfl) (.mk rfl rfl) (by omega) q1) ?_
 refine jm rfl rfl ?_
 refine wN hK ?_; clear hK
 refine uS rfl fun K hK => ?_
 refine jm rfl rfl ?_
 refine wN hK ?_; clear hK
 refine WC.seq fun K hK => ?_
 refine uS rfl fun K hK => ?_
 iterate 2 refine jm rfl rfl ?_
 refine wN hK ?_; clear hK
 refine WC.block ?_
 generalize isortP l0 = l at *
 have hlf := lfN_lt (T := T) (len := len) (by omega) (by omega)
 have hls : ∀ j, lfN T len (j + 1) = lfN T len j ||| 2 ^ ((T + j) % len) := fun _ => rfl
 have hl0 : lfN T len 0 = 0 := rfl
 generalize hlff : lfN T len = lf at *
 refine WC.loopF (fun j : Nat => [(80, iv j), (79, iv out), (13, .int .u64 (lf j)), (12, iv T), (7, .slice F len fc)]) (fun _ => [vec F len fc HPT 2 (mes l)]) (fun j => j ≤ out) (fun j => out - j) 0 ⟨rfl, rfl, by rw [hl0]; rfl, rfl, rfl, trivial⟩ (Imp.pick (by repeat constructor) (Imp.nil _)) (by omega) ?_
 intro j U2 hj
 by_cases hlt : j < out
 · have hx : (T + j) % len < len := Nat.mod_lt _ (by omega)
   have hrem : ((T : Int) + (j : Int)).tmod (len : Int) = (((T + j) % len : Nat) : Int) := by rw [Int.tmod_eq_emod_of_nonneg (by omega), show (T : Int) + (j : Int) = ((T + j : Nat) : Int) from by omega]; rfl
   have hsj := hls j
   have hb := hlf j
   generalize (T + j) % len = x at *
   have hsh := u64_shl1 (z := (x : Int)) x rfl (by omega)
   have hxp : 2 ^ x < 2 ^ 64 := Nat.pow_lt_pow_right (by omega) (by omega)
   have hor := u64_or (lf j) (2 ^ x) (Nat.lt_of_lt_of_le hb (by decide)) hxp
   rw [← hsj] at hor
   generalize (2 : Nat) ^ x = px at *
   refine uS rfl fun K hK => ?_
   refine jt rfl rfl (by omega) ?_
   refine wN hK ?_; clear hK
   refine WC.seq fun K hK => ?_
   refine uT rfl rfl ?_
   refine WC.skip ?_
   (refine hK _ _ ?_; clear hK)
   refine WC.seq fun K hK => ?_
   refine WC.block ?_
   refine uS rfl fun K hK => ?_
   iterate 2 refine jm rfl rfl ?_
   refine wN hK ?_; clear hK
   refine WC.region rfl ?_
   iterate 3 refine jm rfl rfl ?_
   refine ji rfl rfl (by omega) ?_
   refine jm rfl rfl ?_
   refine jn rfl rfl rfl ?_
   refine wG rfl rfl (g_rem rfl (.mk rfl rfl) (.mk rfl rfl) (by omega) hrem) ?_
   refine wG rfl rfl (g_shl rfl (.mk rfl rfl) (.mk rfl rfl) (by omega) hsh) ?_
   refine wG rfl rfl (g_or rfl (.mk rfl rfl) (.mk rfl rfl) hor) ?_
   refine jm rfl rfl ?_
   refine wN hK ?_; clear hK
   refine WC.region rfl ?_
   refine ji rfl rfl (by omega) ?_
   refine jm rfl rfl ?_
   refine WL.nil ?_
   exact ⟨j + 1, (by repeat (first | exact trivial | refine ⟨rfl, ?_⟩)), Imp.pick (by repeat constructor) (Imp.nil _), by omega, by omega⟩
 obtain rfl : j = out := by omega
 have hlb := hlf j
 obtain ⟨left, hleft⟩ : ∃ left, left = lf j := ⟨_, rfl⟩
 rw [← hleft] at hlb ⊢
 refine uS rfl fun K hK => ?_
 refine jf rfl rfl (by omega) ?_
 refine wN hK ?_; clear hK
 refine WC.seq fun K hK => ?_
 refine uF rfl rfl ?_
 refine WC.exit ?_
 (clear hK; refine hK _ _ ?_; clear hK)
 refine uS rfl fun K hK => ?_
 refine jm rfl rfl ?_
 refine wN hK ?_; clear hK
 refine WC.seq fun K hK => ?_
 refine uS rfl fun K hK => ?_
 refine jm rfl rfl ?_
 refine jn rfl rfl rfl ?_
 refine jm rfl rfl ?_
 refine wN hK ?_; clear hK
 refine WC.block ?_
 refine WC.nilvec 3 1 ?_
 
 have hfl := frF_len l left
 have hfs : ∀ q, frF l left (q + 1) = cond (Nat.beq (left / 2 ^ q % 2) 0) (frF l left q ++ [(nth l q).2]) (frF l left q) := fun _ => rfl
 have hf0 : frF l left 0 = [] := rfl
 generalize hff : frF l left = fr at *
 refine WC.loopF3 (fun (q : Nat) (F2 : Option Addr) (fc2 : Nat) => [(95, iv q), (94, iv len), (93, .slice F len fc), (13, .int .u64 left), (15, .slice F2 (fr q).length fc2)]) (fun q F2 fc2 => [vec F2 (fr q).length fc2 3 1 (ldv (fr q)), vec F len fc HPT 2 (mes l)]) (fun q _ _ => q ≤ len) (fun q _ _ => len - q) 0 none 0 (by rw [hf0]; exact (by repeat (first | exact trivial | refine ⟨rfl, ?_⟩))) (by rw [hf0]; exact Imp.pick (by repeat constructor) (Imp.pick (by repeat constructor) (Imp.nil _))) (by omega) ?_
 intro q F2 fc2 U3 hq
 have hlq := hfl q
 by_cases hlt : q < len
 · have gM := mes_row (l := l) (k := q) (by omega)
   have hsh := u64_shr left (z := (q : Int)) q rfl (by omega)
   have hb2 : left / 2 ^ q < 2 ^ 64 := Nat.lt_of_le_of_lt (Nat.div_le_self _ _) (Nat.lt_of_lt_of_le hlb (by decide))
   have han := u64_and1 (left / 2 ^ q) hb2
   have hsq := hfs q
   rw [nbeq_iff] at hsq
   generalize left / 2 ^ q = lq at *
   generalize hx : nth l q = x at *
   obtain ⟨x1, x2⟩ := x
   by_cases he : lq % 2 = 0
   · rw [decide_eq_true he, cond_true] at hsq
     rw [he] at han
     refine uS rfl fun K hK => ?_
     refine jt rfl rfl (by omega) ?_
     refine wN hK ?_; clear hK
     refine WC.seq fun K hK => ?_
     refine uT rfl rfl ?_
     refine WC.skip ?_
     (refine hK _ _ ?_; clear hK)
     refine WC.seq fun K hK => ?_
     refine WC.block ?_
     refine uS rfl fun K hK => ?_
     refine jm rfl rfl ?_
     refine wG rfl rfl (g_indexAddr (sz := 2) rfl (.mk rfl rfl) (.mk rfl rfl) rfl rfl rfl (by omega) (fun w hw => vec_some hw (.tail _ (.head _)) (by omega))) ?_
     refine wG rfl rfl (g_loadA rfl (.mk rfl rfl) rfl rfl (rdr_vec (cs := [iv x1, iv x2]) (by repeat constructor) (by omega) gM)) ?_
     refine WL.want rfl (WL1.alloc rfl rfl rfl rfl (fun b17 => ?_))
     refine jm rfl rfl ?_
     refine WL.want rfl (WL1.storeAll rfl rfl (.mk rfl rfl) (.mk rfl rfl) rfl (all1 rfl) (by first | rfl | (simp [Blk.len]; done)) (.head) ?_)
     refine wN hK ?_; clear hK
     refine uS rfl fun K hK => ?_
     iterate 2 refine jm rfl rfl ?_
     refine wG rfl rfl (g_shr rfl (.mk rfl rfl) (.mk rfl rfl) (by omega) hsh) ?_
     refine wG rfl rfl (g_and rfl (.mk rfl rfl) (.mk rfl rfl) han) ?_
     refine jt rfl rfl (by omega) ?_
     refine wN hK ?_; clear hK
     refine uT rfl rfl ?_
     refine WC.region rfl ?_
     refine jm rfl rfl ?_
     refine ja 1 rfl rfl rfl rfl ?_
     refine jl rfl rfl rfl (rd_pt (.head _) rfl) ?_
     refine WL.want rfl (WL1.lit (cs := [_]) elI rfl rfl rfl (.cons (.mk (v := .int _ _) rfl rfl) .nil) rfl (by first | (simp [Value.cells]; done) | fail) rfl rfl (fun b108 => ?_))
     refine WL.want rfl (WL1.append elI rfl rfl (.mk rfl rfl) (.mk rfl rfl) (.tail (.tail (.head))) (fun w hw => Sl.of_vec hw (.head _)) (all1 rfl) (by unfold maxLen; omega) (by omega) (fun A109 c109 => ?_))
     refine jm rfl rfl ?_
     refine wN hK ?_; clear hK
     refine WC.region rfl ?_
     refine ji rfl rfl (by omega) ?_
     refine jm rfl rfl ?_
     refine WL.nil ?_
     have hl2 : (fr (q + 1)).length = (fr q).length + 1 := by rw [hsq, List.length_append]; rfl
     refine ⟨q + 1, A109, c109, by rw [hl2]; exact (by repeat (first | exact trivial | refine ⟨rfl, ?_⟩)), ?_, by omega, by omega⟩
     rw [hl2, hsq, ← ldv_snoc]
     exact Imp.pick (by repeat constructor) (Imp.pick (by repeat constructor) (Imp.nil _))
   · rw [decide_eq_false he, cond_false] at hsq
     rw [show lq % 2 = 1 from by omega] at han
     refine uS rfl fun K hK => ?_
     refine jt rfl rfl (by omega) ?_
     refine wN hK ?_; clear hK
     refine WC.seq fun K hK => ?_
     refine uT rfl rfl ?_
     refine WC.skip ?_
     (refine hK _ _ ?_; clear hK)
     refine WC.seq fun K hK => ?_
     refine WC.block ?_
     refine uS rfl fun K hK => ?_
     refine jm rfl rfl ?_
     refine wG rfl rfl (g_indexAddr (sz := 2) rfl (.mk rfl rfl) (.mk rfl rfl) rfl rfl rfl (by omega) (fun w hw => vec_some hw (.tail _ (.head _)) (by omega))) ?_
     refine wG rfl rfl (g_loadA rfl (.mk rfl rfl) rfl rfl (rdr_vec (cs := [iv x1, iv x2]) (by repeat constructor) (by omega) gM)) ?_
     refine WL.want rfl (WL1.alloc rfl rfl rfl rfl (fun b17 => ?_))
     refine jm rfl rfl ?_
     refine WL.want rfl (WL1.storeAll rfl rfl (.mk rfl rfl) (.mk rfl rfl) rfl (all1 rfl) (by first | rfl | (simp [Blk.len]; done)) (.head) ?_)
     refine wN hK ?_; clear hK
     refine uS rfl fun K hK => ?_
     iterate 2 refine jm rfl rfl ?_
     refine wG rfl rfl (g_shr rfl (.mk rfl rfl) (.mk rfl rfl) (by omega) hsh) ?_
     refine wG rfl rfl (g_and rfl (.mk rfl rfl) (.mk rfl rfl) han) ?_
     refine jf rfl rfl (by omega) ?_
     refine wN hK ?_; clear hK
     refine uF rfl rfl ?_
     refine WC.skip ?_
     (refine hK _ _ ?_; clear hK)
     refine WC.region rfl ?_
     refine ji rfl rfl (by omega) ?_
     refine jm rfl rfl ?_
     refine WL.nil ?_
     exact ⟨q + 1, F2, fc2, by rw [hsq]; exact (by repeat (first | exact trivial | refine ⟨rfl, ?_⟩)), by rw [hsq]; exact Imp.pick (by repeat constructor) (Imp.pick (by repeat constructor) (Imp.nil _)), by omega, by omega⟩
 · obtain rfl : q = len := by omega
   have hil := isort_len (fr q)
   refine uS rfl fun K hK => ?_
   refine jf rfl rfl (by omega) ?_
   refine wN hK ?_; clear hK
   refine WC.seq fun K hK => ?_
   refine uF rfl rfl ?_
   refine WC.exit ?_
   (clear hK; refine hK _ _ ?_; clear hK)
   refine uS rfl fun K hK => ?_
   refine jm rfl rfl ?_
   (refine WL.want rfl (WL1.callF rfl rfl rfl (.cons (.mk (v := .slice _ _ _) rfl rfl) .nil) (fun w hw => sort_f (l := fr q) rfl (by omega) hw) ?_); rintro _ _ ⟨rfl, rfl⟩)
   refine wN hK ?_; clear hK
   refine uS rfl fun K hK => ?_
   iterate 3 refine jm rfl rfl ?_
   refine wN hK ?_; clear hK
   refine WC.ret ?_
   have e : isort (frF l (lf (q - (i - 3))) q) = isort (fr q) := by rw [← hff, hleft, hout]
   exact fun w' hw' => ⟨_, _, rfl, (Imp.pick (by repeat constructor) (Imp.nil _)).h hw', F2, fc2, by rw [e, hil]; rfl, by rw [e, hil]⟩
end Go.Proofs.YtdcijljfgcjelaaGreat
namespace Go.Proofs.YtdcijljfgcjelaaGreat
set_option maxRecDepth 20000
open Go.RowKit
attribute [local irreducible] Calls
variable {v k r lam t s : Nat} {A : Option Addr} {c : Nat} {rs : List IRow} {M : Option Addr} {mc m : Nat} {ms : List Mv}
theorem Sl.one_pt {w0 w : World} {L : List Asrt} {b : Nat} {T : TypeId} {cs : List Value} (hw : H w0 L w) (hm : pt b T cs ∈ L) (hl : cs.length = 6) : Sl w 6 (.slice (some ⟨b, 0, none⟩) 1 1) 1 cs :=
 Sl.of_ptE (k := 0) (m := 1) (l := 0) (h := 1) (sz := 6) hw hm (by omega) (by omega) (by unfold maxLen; omega) (by omega) rfl (by rw [Nat.zero_mul, Nat.zero_add, List.drop_zero, List.take_of_length_le (by omega)])
abbrev PLT : TypeId := 124
abbrev TKT : TypeId := 76
def nxM (gs : List (List Nat)) (n k r t s v : Nat) (ms : List Mv) (dl : List Bool) (G P : Nat) : Mv :=
 ⟨G, P, (chF ms (dskL gs n k ms G) dl s v).1 - 1, blF (isort (usL ms ((chF ms (dskL gs n k ms G) dl s v).1 - 1))) (t * r) (usL ms ((chF ms (dskL gs n k ms G) dl s v).1 - 1)).length⟩
set_option maxHeartbeats 16000000 in
theorem add_f {w0 w : World} {L0 : List Asrt} {G P bp dc : Nat} {Dd : Option Addr} {dl : List Bool} {mv : Mv} (hy : Lay v k r lam (ils rs) t s) (hm : IMat w0 (.slice A rs.length c) rs) (hl : ms.length = m) (h0 : m = 0 → M = none ∧ mc = 0) (hs1 : 1 ≤ s) (hk12 : k ≤ 12) (ho : MOk v k r t rs.length s (ils rs) ms) (ho2 : MOk v k r t rs.length s (ils rs) (ms ++ [mv])) (hG : G < t * rs.length)
   (hD : Sl w0 1 (.slice Dd v dc) v (bls dl)) (hdl : dl.length = v) (hwv : ∀ i, i < k → whD (ils rs) rs.length k ms G i < v) (hln : k - 3 ≤ (hp0 (ils rs) rs.length k ms dl G k).length) (hu12 : ∀ d, d < v → (usL ms d).length ≤ 12) (hc1 : 1 ≤ (chF ms (dskL (ils rs) rs.length k ms G) dl s v).1) (hmv : mv = nxM (ils rs) rs.length k r t s v ms dl G P) (hdv : mv.d < v)
   (hw : H w0 (pt bp PLT (plC v A c rs t s M mc m Dd dc) :: vec M m mc MVT 4 (mvs ms) :: L0) w) :
   Calls Tryz.prog 58 #[cellPtr (some ⟨bp, 0, none⟩) 0, meV G P] w fun e w' => ∃ u L', e = .returned u ∧ H w0 L' w' ∧ ∃ F fc R rc, u = .tuple #[.agg #[iv G, iv P, .slice R (hlpL (ils rs) rs.length k ms dl G).length rc, iv mv.d, iv mv.b], iv 0] ∧
     L' = vec R (hlpL (ils rs) rs.length k ms dl G).length rc 3 1 (ldv (hlpL (ils rs) rs.length k ms dl G)) :: pt bp PLT (plC v A c rs t s F fc (m + 1) Dd dc) :: vec F (m + 1) fc MVT 4 (mvs (ms ++ [mv])) :: L0 := by
 obtain ⟨xg, xp, xd, xb⟩ := mv
 have e1 := congrArg Mv.g hmv
 have e2 := congrArg Mv.p hmv
 have e3 := congrArg Mv.d hmv
 have e4 := congrArg Mv.b hmv
 simp only [nxM] at e1 e2 e3 e4
 subst e1; subst e2
 have hbd : (chF ms (dskL (ils rs) rs.length k ms xg) dl s v).1 = xd + 1 := by omega
 rw [show (chF ms (dskL (ils rs) rs.length k ms xg) dl s v).1 - 1 = xd from e3.symm] at e4
 have hhl := fun w' hb hMs hps => helpers_n (bp := bp) (M := M) (mc := mc) w' hy (hm.below (w' := w') hb) hMs hl hs1 hk12 ho hG (hD.below hb) hdl hps hwv hln
 have hch := fun w' hb hMs => choose_m (M := M) (mc := mc) w' hy (hm.below (w' := w') hb) hMs (hD.below hb) hdl hl hs1 hk12 ho hG hu12 hbd hdv
 rw [← e4] at hch
 have hap := fun w' hb hMs => apply_m (M := M) (mc := mc) (mv := ⟨xg, xp, xd, xb⟩) w' hy (hm.below (w' := w') hb) hMs hl h0 hs1 hk12 ho ho2
 generalize hlpL (ils rs) rs.length k ms dl xg = hL at *
 have gL : ∀ j u, [iv v, .slice A rs.length c, iv t, iv s][j]? = some u → (plC v A c rs t s M mc m Dd dc)[0 + (0 + 0 + j)]? = some u := fun j u h => pre_get (es := [.slice M m mc, .slice Dd v dc]) (by omega) h
 clear hmv e3 e4 hbd
 refine calls_wcG (args := [cellPtr (some ⟨bp, 0, none⟩) 0, meV xg xp]) [.cell 4 76, .tmp 5] (pt bp PLT (plC v A c rs t s M mc m Dd dc) :: vec M m mc MVT 4 (mvs ms) :: L0) Tryz.func58 rfl Tryz.ntmps58 rfl rfl hw ?_
 refine uS rfl fun K hK => ?_
 refine WL.want rfl (WL1.box rfl rfl (.mk (v := .agg _) rfl rfl) rfl (fun b3 => ?_))
 refine WL.want rfl (WL1.alloc rfl rfl rfl rfl (fun b4 => ?_))
 refine jm rfl rfl ?_
 refine wN hK ?_; clear hK
 refine uS rfl fun K hK => ?_
 refine jp rfl rfl rfl ?_
 refine ja 0 rfl rfl rfl rfl ?_
 refine jl rfl rfl rfl (rd_pt (.tail _ (.head _)) rfl) ?_
 (refine WL.want rfl (WL1.callN rfl rfl rfl (.cons (.mk (v := cellPtr _ _) rfl rfl) (.cons (.mk (v := .int _ _) rfl rfl) .nil)) (fun w hw => hhl w hw.1 (Sl.of_vec hw (by repeat constructor)) (Sl.one_pt hw (by repeat constructor) rfl)) ?_); rintro _ _ ⟨R, rc, rfl, rfl⟩)
 iterate 5 refine jm rfl rfl ?_
 refine wN hK ?_; clear hK
 refine WC.seq fun K hK => ?_
 refine uS rfl fun K hK => ?_
 refine jm rfl rfl ?_
 refine jf rfl rfl (by omega) ?_
 refine wN hK ?_; clear hK
 refine uF rfl rfl ?_
 refine WC.skip ?_
 (refine hK _ _ ?_; clear hK)
 refine WC.seq fun K hK => ?_
 refine WC.untilL [19, 20] rfl (by kernel_rfl) ?_
 refine uG 0 rfl (by decide +kernel) (.inr (iS (by repeat constructor))) rfl (Gp rfl rfl) ?_
 refine uG 1 rfl (by decide +kernel) (.inr (iS (by repeat constructor))) rfl ⟨rfl, g_nilCheck rfl (.mk rfl rfl) (fun _ _ => rfl)⟩ ?_
 refine uG 2 rfl (by decide +kernel) (.inr (iS (by repeat constructor))) rfl (Ga 0 rfl rfl rfl) ?_
 refine uB 3 rfl (by decide +kernel) (iS (by repeat constructor)) rfl ⟨rfl, g_loadA rfl (.mk rfl rfl) rfl rfl (rdr_pt (cs := [iv v, .slice A rs.length c, iv t, iv s]) (by repeat constructor) gL)⟩ ?_
 refine uG 4 rfl (by decide +kernel) (.inr (iS (by repeat constructor))) rfl (Gp rfl rfl) ?_
 refine uG 5 rfl (by decide +kernel) (.inr (iS (by repeat constructor))) rfl ⟨rfl, g_nilCheck rfl (.mk rfl rfl) (fun _ _ => rfl)⟩ ?_
 refine uG 6 rfl (by decide +kernel) (.inr (iS (by repeat constructor))) rfl (Ga 4 rfl rfl rfl) ?_
 refine uB 7 rfl (by decide +kernel) (iS (by repeat constructor)) rfl (Gl rfl rfl (rd_pt (.tail _ (.tail _ (.tail _ (.head _)))) rfl)) ?_
 refine uG 8 rfl (by decide +kernel) (.inr (iS (by repeat constructor))) rfl (Ga 0 rfl rfl rfl) ?_
 refine uB 9 rfl (by decide +kernel) (iS (by repeat constructor)) rfl (Gl rfl rfl (rd_pt (.tail _ (.tail _ (.head _))) rfl)) ?_
 refine uG 10 rfl (by decide +kernel) (.inr (iS (by repeat constructor))) rfl (Gp rfl rfl) ?_
 refine uG 11 rfl (by decide +kernel) (.inr (iS (by repeat constructor))) rfl ⟨rfl, g_nilCheck rfl (.mk rfl rfl) (fun _ _ => rfl)⟩ ?_
 refine uG 12 rfl (by decide +kernel) (.inr (iS (by repeat constructor))) rfl (Ga 5 rfl rfl rfl) ?_
 refine uB 13 rfl (by decide +kernel) (iS (by repeat constructor)) rfl (Gl rfl rfl (rd_pt (.tail _ (.tail _ (.tail _ (.head _)))) rfl)) ?_
 refine WB.two 14 18 (by decide +kernel) rfl rfl rfl rfl ?_ ?_
 refine WL1.callP rfl rfl rfl (.cons (.mk (v := .agg _) rfl rfl) (.cons (.mk (v := .slice _ _ _) rfl rfl) (.cons (.mk (v := .int _ _) rfl rfl) (.cons (.mk (v := .slice _ _ _) rfl rfl) .nil)))) (fun w hw => hch w hw.1 (Sl.of_vec hw (by repeat constructor))) ?_
 refine WL.nil ?_
 refine ⟨.inr (iS (by repeat constructor)), ?_⟩
 refine uP 15 rfl (by decide +kernel) (.inr (iS (by repeat constructor))) rfl rfl ?_
 refine uP 16 rfl (by decide +kernel) (.inr (iS (by repeat constructor))) rfl rfl ?_
 refine uP 17 rfl (by decide +kernel) (.inr (iS (by repeat constructor))) rfl rfl ?_
 refine WB.one 18 (by decide +kernel) rfl rfl ?_
 refine WL1.alloc rfl rfl rfl rfl (fun b8 => ?_)
 refine WL.nil ?_
 refine ⟨.inr (iS (by repeat constructor)), ?_⟩
 refine WB.one 19 (by decide +kernel) rfl rfl ?_
 refine WL1.storeAll rfl rfl (.mk rfl rfl) (.mk rfl rfl) rfl (all1 rfl) (by first | rfl | (simp [Blk.len]; done)) (.head) ?_
 refine WL.nil ?_
 refine ⟨.inl (by decide +kernel), ?_⟩
 refine WB.one 20 (by decide +kernel) rfl rfl ?_
 refine WL1.give rfl (g_assign rfl (.mk (v := .int _ _) rfl rfl)) ?_
 refine WL.nil ?_
 refine ⟨.inl (by decide +kernel), ?_⟩
 refine WB.done (by decide +kernel) ?_
 (refine hK _ _ ?_; clear hK)
 refine WC.seq fun K hK => ?_
 refine uS rfl fun K hK => ?_
 refine jm rfl rfl ?_
 refine jf rfl rfl (by omega) ?_
 refine wN hK ?_; clear hK
 refine uF rfl rfl ?_
 refine WC.skip ?_
 (refine hK _ _ ?_; clear hK)
 refine WC.seq fun K hK => ?_
 refine WC.untilL [21, 22] rfl (by kernel_rfl) ?_
 refine uG 0 rfl (by decide +kernel) (.inr (iS (by repeat constructor))) rfl (Gp rfl rfl) ?_
 refine uG 1 rfl (by decide +kernel) (.inr (iS (by repeat constructor))) rfl (Gp rfl rfl) ?_
 refine uG 2 rfl (by decide +kernel) (.inr (iS (by repeat constructor))) rfl ⟨rfl, g_nilCheck rfl (.mk rfl rfl) (fun _ _ => rfl)⟩ ?_
 refine uG 3 rfl (by decide +kernel) (.inr (iS (by repeat constructor))) rfl (Ga 0 rfl rfl rfl) ?_
 refine uB 4 rfl (by decide +kernel) (iS (by repeat constructor)) rfl ⟨rfl, g_loadA rfl (.mk rfl rfl) rfl rfl (rdr_pt (cs := [iv v, .slice A rs.length c, iv t, iv s]) (by repeat constructor) gL)⟩ ?_
 refine uG 5 rfl (by decide +kernel) (.inr (iS (by repeat constructor))) rfl (Gp rfl rfl) ?_
 refine uG 6 rfl (by decide +kernel) (.inr (iS (by repeat constructor))) rfl ⟨rfl, g_nilCheck rfl (.mk rfl rfl) (fun _ _ => rfl)⟩ ?_
 refine uG 7 rfl (by decide +kernel) (.inr (iS (by repeat constructor))) rfl (Ga 4 rfl rfl rfl) ?_
 refine uB 8 rfl (by decide +kernel) (iS (by repeat constructor)) rfl (Gl rfl rfl (rd_pt (.tail _ (.tail _ (.tail _ (.tail _ (.head _))))) rfl)) ?_
 refine uG 9 rfl (by decide +kernel) (.inr (iS (by repeat constructor))) rfl (Ga 0 rfl rfl rfl) ?_
 refine uB 10 rfl (by decide +kernel) (iS (by repeat constructor)) rfl (Gl rfl rfl (rd_pt (.tail _ (.tail _ (.tail _ (.head _)))) rfl)) ?_
 refine uG 11 rfl (by decide +kernel) (.inr (iS (by repeat constructor))) rfl (Ga 1 rfl rfl rfl) ?_
 refine uB 12 rfl (by decide +kernel) (iS (by repeat constructor)) rfl (Gl rfl rfl (rd_pt (.tail _ (.tail _ (.tail _ (.head _)))) rfl)) ?_
 refine uB 13 rfl (by decide +kernel) (iS (by repeat constructor)) rfl ⟨rfl, g_loadA rfl (.mk rfl rfl) rfl rfl (rdr_pt (.head _) (fun j u h => by simpa using h))⟩ ?_
 refine uG 14 rfl (by decide +kernel) (.inr (iS (by repeat constructor))) rfl ⟨rfl, g_buildS (us := [(0, [_]), (1, [_]), (2, [iv xd, iv xb])]) (cs := [iv xg, iv xp, iv xd, iv xb]) rfl rfl rfl rfl (.cons (.mk (v := .int _ _) rfl rfl) (.cons (.mk (v := .int _ _) rfl rfl) (.cons (.mk (v := .agg _) rfl rfl) .nil))) rfl (fun p hp => by simp only [List.mem_cons, List.not_mem_nil, or_false] at hp; rcases hp with rfl | rfl | rfl <;> exact ⟨_, _, rfl, rfl, Nat.le_of_ble_eq_true rfl⟩) rfl⟩ ?_
 refine WB.one 15 (by decide +kernel) rfl rfl ?_
 (refine WL1.callN rfl rfl rfl (.cons (.mk (v := .agg _) rfl rfl) (.cons (.mk (v := .slice _ _ _) rfl rfl) (.cons (.mk (v := .agg _) rfl rfl) .nil))) (fun w hw => hap w hw.1 (Sl.of_vec hw (by repeat constructor))) ?_; rintro _ _ ⟨F, fc, rfl, rfl⟩)
 refine WL.nil ?_
 refine ⟨.inr (iS (by repeat constructor)), ?_⟩
 refine uP 16 rfl (by decide +kernel) (.inr (iS (by repeat constructor))) rfl rfl ?_
 refine uP 17 rfl (by decide +kernel) (.inr (iS (by repeat constructor))) rfl rfl ?_
 refine uP 18 rfl (by decide +kernel) (.inr (iS (by repeat constructor))) rfl rfl ?_
 refine uG 19 rfl (by decide +kernel) (.inr (iS (by repeat constructor))) rfl ⟨rfl, g_nilCheck rfl (.mk rfl rfl) (fun _ _ => rfl)⟩ ?_
 refine uG 20 rfl (by decide +kernel) (.inr (iS (by repeat constructor))) rfl (Ga 4 rfl rfl rfl) ?_
 refine WB.one 21 (by decide +kernel) rfl rfl ?_
 refine WL1.store1 rfl rfl (.mk rfl rfl) (.mk (v := .slice _ _ _) rfl rfl) rfl rfl (Nat.le_of_ble_eq_true rfl) (.tail (.tail (.tail (.tail (.tail (.head)))))) ?_
 refine WL.nil ?_
 refine ⟨.inl (by decide +kernel), ?_⟩
 refine WB.one 22 (by decide +kernel) rfl rfl ?_
 refine WL1.give rfl (g_assign rfl (.mk (v := .int _ _) rfl rfl)) ?_
 refine WL.nil ?_
 refine ⟨.inl (by decide +kernel), ?_⟩
 refine WB.done (by decide +kernel) ?_
 (refine hK _ _ ?_; clear hK)
 refine uS rfl fun K hK => ?_
 refine ja 0 rfl rfl rfl rfl ?_
 refine jl rfl rfl rfl (rd_pt (.tail _ (.tail _ (.tail _ (.tail _ (.head _))))) rfl) ?_
 refine ja 1 rfl rfl rfl rfl ?_
 refine jl rfl rfl rfl (rd_pt (.tail _ (.tail _ (.tail _ (.tail _ (.head _))))) rfl) ?_
 refine jm rfl rfl ?_
 refine wG rfl rfl (g_loadA rfl (.mk rfl rfl) rfl rfl (rdr_pt (.tail _ (.head _)) (fun j u h => by simpa using h))) ?_
 refine wG rfl rfl (g_buildS (us := [(0, [_]), (1, [_]), (2, [.slice R hL.length rc]), (3, [iv xd, iv xb])]) (cs := [iv xg, iv xp, .slice R hL.length rc, iv xd, iv xb]) rfl rfl rfl rfl (.cons (.mk (v := .int _ _) rfl rfl) (.cons (.mk (v := .int _ _) rfl rfl) (.cons (.mk (v := .slice _ _ _) rfl rfl) (.cons (.mk (v := .agg _) rfl rfl) .nil)))) rfl (fun p hp => by simp only [List.mem_cons, List.not_mem_nil, or_false] at hp; rcases hp with rfl | rfl | rfl | rfl <;> exact ⟨_, _, rfl, rfl, Nat.le_of_ble_eq_true rfl⟩) rfl) ?_
 refine jm rfl rfl ?_
 refine WL.want rfl (WL1.storeAll rfl rfl (.mk rfl rfl) (.mk rfl rfl) rfl (all1 rfl) (by first | rfl | (simp [Blk.len]; done)) (.tail (.tail (.tail (.head)))) ?_)
 refine jm rfl rfl ?_
 refine wN hK ?_; clear hK
 refine WC.ret ?_
 rotate_left
 refine WL1.alloc rfl rfl rfl rfl (fun b8 => ?_)
 refine WL.nil ?_
 refine ⟨.inr (iS (by repeat constructor)), ?_⟩
 refine WB.one 14 (by decide +kernel) rfl rfl ?_
 refine WL1.callP rfl rfl rfl (.cons (.mk (v := .agg _) rfl rfl) (.cons (.mk (v := .slice _ _ _) rfl rfl) (.cons (.mk (v := .int _ _) rfl rfl) (.cons (.mk (v := .slice _ _ _) rfl rfl) .nil)))) (fun w hw => hch w hw.1 (Sl.of_vec hw (by repeat constructor))) ?_
 refine WL.nil ?_
 refine ⟨.inr (iS (by repeat constructor)), ?_⟩
 refine uP 15 rfl (by decide +kernel) (.inr (iS (by repeat constructor))) rfl rfl ?_
 refine uP 16 rfl (by decide +kernel) (.inr (iS (by repeat constructor))) rfl rfl ?_
 refine uP 17 rfl (by decide +kernel) (.inr (iS (by repeat constructor))) rfl rfl ?_
 refine WB.one 19 (by decide +kernel) rfl rfl ?_
 refine WL1.storeAll rfl rfl (.mk rfl rfl) (.mk rfl rfl) rfl (all1 rfl) (by first | rfl | (simp [Blk.len]; done)) (.head) ?_
 refine WL.nil ?_
 refine ⟨.inl (by decide +kernel), ?_⟩
 refine WB.one 20 (by decide +kernel) rfl rfl ?_
 refine WL1.give rfl (g_assign rfl (.mk (v := .int _ _) rfl rfl)) ?_
 refine WL.nil ?_
 refine ⟨.inl (by decide +kernel), ?_⟩
 refine WB.done (by decide +kernel) ?_
 (refine hK _ _ ?_; clear hK)
 refine WC.seq fun K hK => ?_
 refine uS rfl fun K hK => ?_
 refine jm rfl rfl ?_
 refine jf rfl rfl (by omega) ?_
 refine wN hK ?_; clear hK
 refine uF rfl rfl ?_
 refine WC.skip ?_
 (refine hK _ _ ?_; clear hK)
 refine WC.seq fun K hK => ?_
 refine WC.untilL [21, 22] rfl (by kernel_rfl) ?_
 refine uG 0 rfl (by decide +kernel) (.inr (iS (by repeat constructor))) rfl (Gp rfl rfl) ?_
 refine uG 1 rfl (by decide +kernel) (.inr (iS (by repeat constructor))) rfl (Gp rfl rfl) ?_
 refine uG 2 rfl (by decide +kernel) (.inr (iS (by repeat constructor))) rfl ⟨rfl, g_nilCheck rfl (.mk rfl rfl) (fun _ _ => rfl)⟩ ?_
 refine uG 3 rfl (by decide +kernel) (.inr (iS (by repeat constructor))) rfl (Ga 0 rfl rfl rfl) ?_
 refine uB 4 rfl (by decide +kernel) (iS (by repeat constructor)) rfl ⟨rfl, g_loadA rfl (.mk rfl rfl) rfl rfl (rdr_pt (cs := [iv v, .slice A rs.length c, iv t, iv s]) (by repeat constructor) gL)⟩ ?_
 refine uG 5 rfl (by decide +kernel) (.inr (iS (by repeat constructor))) rfl (Gp rfl rfl) ?_
 refine uG 6 rfl (by decide +kernel) (.inr (iS (by repeat constructor))) rfl ⟨rfl, g_nilCheck rfl (.mk rfl rfl) (fun _ _ => rfl)⟩ ?_
 refine uG 7 rfl (by decide +kernel) (.inr (iS (by repeat constructor))) rfl (Ga 4 rfl rfl rfl) ?_
 refine uB 8 rfl (by decide +kernel) (iS (by repeat constructor)) rfl (Gl rfl rfl (rd_pt (.tail _ (.tail _ (.tail _ (.tail _ (.head _))))) rfl)) ?_
 refine uG 9 rfl (by decide +kernel) (.inr (iS (by repeat constructor))) rfl (Ga 0 rfl rfl rfl) ?_
 refine uB 10 rfl (by decide +kernel) (iS (by repeat constructor)) rfl (Gl rfl rfl (rd_pt (.tail _ (.tail _ (.tail _ (.head _)))) rfl)) ?_
 refine uG 11 rfl (by decide +kernel) (.inr (iS (by repeat constructor))) rfl (Ga 1 rfl rfl rfl) ?_
 refine uB 12 rfl (by decide +kernel) (iS (by repeat constructor)) rfl (Gl rfl rfl (rd_pt (.tail _ (.tail _ (.tail _ (.head _)))) rfl)) ?_
 refine uB 13 rfl (by decide +kernel) (iS (by repeat constructor)) rfl ⟨rfl, g_loadA rfl (.mk rfl rfl) rfl rfl (rdr_pt (.head _) (fun j u h => by simpa using h))⟩ ?_
 refine uG 14 rfl (by decide +kernel) (.inr (iS (by repeat constructor))) rfl ⟨rfl, g_buildS (us := [(0, [_]), (1, [_]), (2, [iv xd, iv xb])]) (cs := [iv xg, iv xp, iv xd, iv xb]) rfl rfl rfl rfl (.cons (.mk (v := .int _ _) rfl rfl) (.cons (.mk (v := .int _ _) rfl rfl) (.cons (.mk (v := .agg _) rfl rfl) .nil))) rfl (fun p hp => by simp only [List.mem_cons, List.not_mem_nil, or_false] at hp; rcases hp with rfl | rfl | rfl <;> exact ⟨_, _, rfl, rfl, Nat.le_of_ble_eq_true rfl⟩) rfl⟩ ?_
 refine WB.one 15 (by decide +kernel) rfl rfl ?_
 (refine WL1.callN rfl rfl rfl (.cons (.mk (v := .agg _) rfl rfl) (.cons (.mk (v := .slice _ _ _) rfl rfl) (.cons (.mk (v := .agg _) rfl rfl) .nil))) (fun w hw => hap w hw.1 (Sl.of_vec hw (by repeat constructor))) ?_; rintro _ _ ⟨F, fc, rfl, rfl⟩)
 refine WL.nil ?_
 refine ⟨.inr (iS (by repeat constructor)), ?_⟩
 refine uP 16 rfl (by decide +kernel) (.inr (iS (by repeat constructor))) rfl rfl ?_
 refine uP 17 rfl (by decide +kernel) (.inr (iS (by repeat constructor))) rfl rfl ?_
 refine uP 18 rfl (by decide +kernel) (.inr (iS (by repeat constructor))) rfl rfl ?_
 refine uG 19 rfl (by decide +kernel) (.inr (iS (by repeat constructor))) rfl ⟨rfl, g_nilCheck rfl (.mk rfl rfl) (fun _ _ => rfl)⟩ ?_
 refine uG 20 rfl (by decide +kernel) (.inr (iS (by repeat constructor))) rfl (Ga 4 rfl rfl rfl) ?_
 refine WB.one 21 (by decide +kernel) rfl rfl ?_
 refine WL1.store1 rfl rfl (.mk rfl rfl) (.mk (v := .slice _ _ _) rfl rfl) rfl rfl (Nat.le_of_ble_eq_true rfl) (.tail (.tail (.tail (.tail (.tail (.head)))))) ?_
 refine WL.nil ?_
 refine ⟨.inl (by decide +kernel), ?_⟩
 refine WB.one 22 (by decide +kernel) rfl rfl ?_
 refine WL1.give rfl (g_assign rfl (.mk (v := .int _ _) rfl rfl)) ?_
 refine WL.nil ?_
 refine ⟨.inl (by decide +kernel), ?_⟩
 refine WB.done (by decide +kernel) ?_
 (refine hK _ _ ?_; clear hK)
 refine uS rfl fun K hK => ?_
 refine ja 0 rfl rfl rfl rfl ?_
 refine jl rfl rfl rfl (rd_pt (.tail _ (.tail _ (.tail _ (.tail _ (.head _))))) rfl) ?_
 refine ja 1 rfl rfl rfl rfl ?_
 refine jl rfl rfl rfl (rd_pt (.tail _ (.tail _ (.tail _ (.tail _ (.head _))))) rfl) ?_
 refine jm rfl rfl ?_
 refine wG rfl rfl (g_loadA rfl (.mk rfl rfl) rfl rfl (rdr_pt (.tail _ (.head _)) (fun j u h => by simpa using h))) ?_
 refine wG rfl rfl (g_buildS (us := [(0, [_]), (1, [_]), (2, [.slice R hL.length rc]), (3, [iv xd, iv xb])]) (cs := [iv xg, iv xp, .slice R hL.length rc, iv xd, iv xb]) rfl rfl rfl rfl (.cons (.mk (v := .int _ _) rfl rfl) (.cons (.mk (v := .int _ _) rfl rfl) (.cons (.mk (v := .slice _ _ _) rfl rfl) (.cons (.mk (v := .agg _) rfl rfl) .nil)))) rfl (fun p hp => by simp only [List.mem_cons, List.not_mem_nil, or_false] at hp; rcases hp with rfl | rfl | rfl | rfl <;> exact ⟨_, _, rfl, rfl, Nat.le_of_ble_eq_true rfl⟩) rfl) ?_
 refine jm rfl rfl ?_
 refine WL.want rfl (WL1.storeAll rfl rfl (.mk rfl rfl) (.mk rfl rfl) rfl (all1 rfl) (by first | rfl | (simp [Blk.len]; done)) (.tail (.tail (.tail (.head)))) ?_)
 refine jm rfl rfl ?_
 refine wN hK ?_; clear hK
 refine WC.ret ?_
 rotate_left
 all_goals exact ⟨_, .cell rfl rfl rfl rfl (by repeat constructor) (.tmp rfl rfl .nil), fun w' hw' => ⟨_, _, rfl, (Imp.pick (A := vec R hL.length rc 3 1 (ldv hL)) (by repeat constructor) (Imp.pick (A := pt bp PLT (plC v A c rs t s F fc (m + 1) Dd dc)) (by repeat constructor) (Imp.pick (A := vec F (m + 1) fc MVT 4 (mvs (ms ++ [⟨xg, xp, xd, xb⟩]))) (by repeat constructor) (by repeat (first | exact Imp.refl _ | apply Imp.skip))))).h hw', F, fc, R, rc, rfl, rfl⟩⟩
end Go.Proofs.YtdcijljfgcjelaaGreat
namespace Go.Proofs.YtdcijljfgcjelaaGreat
set_option maxRecDepth 20000
open Go.RowKit
attribute [local irreducible] Calls
theorem nth_takeM {α : Type} [Inhabited α] {l : List α} {i j : Nat} (h : j < i) (h2 : j < l.length) : nth (l.take i) j = nth l j := by
 rw [nth_eq (by rw [List.length_take]; omega), List.getElem_take, nth_eq h2]
theorem dskL_take {gs : List (List Nat)} {n k i j : Nat} {ms : List Mv} (hi : Inc ms) (hj : j < i) (hjl : j < ms.length) : dskL gs n k (ms.take i) (nth ms j).g = dskL gs n k ms (nth ms j).g := by
 have hp : ∀ l : List Mv, Inc l → j < l.length → nth l j = nth ms j → posN l (nth ms j).g 0 = j := fun l hl hjl' e => by
   refine posN_at (by omega) (fun a ha => lesM_iff.2 (.inl ?_)) fun a ha ha2 => ?_
   · rw [← e]; exact hl.lt j a ha hjl'
   · cases h : lesM (nth l a) (nth ms j).g 0 with
     | false => rfl
     | true =>
       have h := lesM_iff.1 h
       by_cases e2 : a = j
       · subst e2; rw [e] at h; omega
       · have := hl.lt a j (by omega) ha2
         rw [e] at this; omega
 have hit : Inc (ms.take i) := fun q hq => by
   rw [List.length_take] at hq
   rw [nth_takeM (by omega) (by omega), nth_takeM (by omega) (by omega)]
   exact hi q (by omega)
 have e1 := nth_takeM (l := ms) hj hjl
 have p1 := hp (ms.take i) hit (by rw [List.length_take]; omega) e1
 have p2 := hp ms hi hjl rfl
 unfold dskL dsk1
 rw [p1, p2, e1, blt_iff, blt_iff, List.length_take, decide_eq_true (show j < min i ms.length by omega), decide_eq_true hjl]
theorem MOk.take {v k r t n s : Nat} {gs : List (List Nat)} {ms : List Mv} (h : MOk v k r t n s gs ms) (i : Nat) : MOk v k r t n s gs (ms.take i) := by
 have hl : (ms.take i).length ≤ ms.length := by rw [List.length_take]; omega
 have hn : ∀ j, j < (ms.take i).length → nth (ms.take i) j = nth ms j ∧ j < ms.length ∧ j < i := fun j hj => by
   rw [List.length_take] at hj
   exact ⟨nth_takeM (by omega) (by omega), by omega, by omega⟩
 refine ⟨fun j hj => ?_, fun j hj => ?_, fun j hj => ?_, fun j hj => ?_, fun j hj => ?_, fun j hj => ?_, fun j hj q hq => ?_, fun j hj => ?_, by have := h.len; omega⟩
 · obtain ⟨e, a, _⟩ := hn j hj; rw [e]; exact h.g j a
 · obtain ⟨e, a, _⟩ := hn j hj; rw [e]; exact h.p j a
 · obtain ⟨e, a, _⟩ := hn j hj; rw [e]; exact h.d j a
 · obtain ⟨e, a, _⟩ := hn j hj; rw [e]; exact h.lo j a
 · obtain ⟨e, a, _⟩ := hn j hj; rw [e]; exact h.hi j a
 · obtain ⟨e, a, _⟩ := hn j (by omega)
   obtain ⟨e2, a2, _⟩ := hn (j + 1) hj
   rw [e, e2]; exact h.inc j a2
 · obtain ⟨e, a, _⟩ := hn j hj
   obtain ⟨e2, a2, _⟩ := hn q (by omega)
   rw [e, e2]; exact h.uni j a q hq
 · obtain ⟨e, a, b⟩ := hn j hj
   rw [e, dskL_take h.inc b a]; exact h.ap j a
structure Tk where
 m : Mv
 f : List Nat
deriving DecidableEq
instance : Inhabited Tk := ⟨⟨default, []⟩⟩
structure TkR where
 m : Mv
 f : IRow
instance : Inhabited TkR := ⟨⟨default, default⟩⟩
def TkR.abs (x : TkR) : Tk := ⟨x.m, x.f.l⟩
def TkR.cells (x : TkR) : List Value := [iv x.m.g, iv x.m.p, x.f.v, iv x.m.d, iv x.m.b]
abbrev tkcs (l : List TkR) : List Value := l.flatMap TkR.cells
theorem tkcs_snoc (l : List TkR) (x : TkR) : tkcs l ++ x.cells = tkcs (l ++ [x]) := by unfold tkcs; rw [List.flatMap_append]; simp
theorem tk5 {l : List TkR} : ∀ x ∈ l, (TkR.cells x).length = 5 := fun _ _ => rfl
theorem tkcs_row {l : List TkR} {k : Nat} (h : k < l.length) : ∀ j u, (nth l k).cells[j]? = some u → (tkcs l)[k * 5 + j]? = some u := flat_row tk5 h
theorem elTk : Elem Tryz.prog 67 TKT (.agg #[iv 0, iv 0, .slice none 0 0, iv 0, iv 0]) 5 56 := ⟨by kernel_rfl, by kernel_rfl, rfl, by decide⟩
structure RbOk (v k r t s : Nat) (gs : List (List Nat)) (d : Nat) (dl : List Bool) (ts : List Tk) : Prop where
 mok : MOk v k r t gs.length s gs (ts.map Tk.m)
 lost : homL gs gs.length k r d (t * r) = (ts.map Tk.m).map fun m => (m.g, m.p)
 st : ∀ i, i < ts.length → (nth ts i).m = nxM gs gs.length k r t s v ((ts.map Tk.m).take i) dl (nth ts i).m.g (nth ts i).m.p
 c1 : ∀ i, i < ts.length → 1 ≤ (chF ((ts.map Tk.m).take i) (dskL gs gs.length k ((ts.map Tk.m).take i) (nth ts i).m.g) dl s v).1
 u12 : ∀ i, i < ts.length → ∀ x, x < v → (usL ((ts.map Tk.m).take i) x).length ≤ 12
 wv : ∀ i, i < ts.length → ∀ p, p < k → whD gs gs.length k ((ts.map Tk.m).take i) (nth ts i).m.g p < v
 ln : ∀ i, i < ts.length → k - 3 ≤ (hp0 gs gs.length k ((ts.map Tk.m).take i) dl (nth ts i).m.g k).length
 fr : ∀ i, i < ts.length → (nth ts i).f = hlpL gs gs.length k ((ts.map Tk.m).take i) dl (nth ts i).m.g
 len : ts.length < 64
 dlen : dl.length = v
 dd : nth dl d = true
 dlt : d < v
 onr : (onP (gdP gs gs.length) d).length = r
 ong : ∀ q, q < r → nth (onP (gdP gs gs.length) d) q < gs.length
 r1 : 1 ≤ r
theorem clonenil_e (w : World) : Calls Tryz.prog 57 #[.slice none 0 0] w fun e w' => e = .returned (.slice none 0 0) ∧ Below w.heap.size w w' := by
 refine calls_wc (args := [.slice none 0 0]) [2] [] Tryz.func57 rfl Tryz.ntmps57 rfl rfl rfl rfl (H.refl _) ?_
 refine uS rfl fun K hK => ?_
 refine jm rfl rfl ?_
 refine wN hK ?_; clear hK
 refine WC.seq fun K hK => ?_
 refine uS rfl fun K hK => ?_
 refine jm rfl rfl ?_
 refine wG rfl rfl (g_eqSNN rfl rfl (.mk rfl rfl) (.mk rfl rfl)) ?_
 refine wN hK ?_; clear hK
 refine uT rfl rfl ?_
 refine uS rfl fun K hK => ?_
 refine jm rfl rfl ?_
 refine wN hK ?_; clear hK
 refine WC.ret ?_
 exact fun w' hw' => ⟨rfl, hw'.1⟩
theorem nilM (w : World) : Sl w 4 (.slice none 0 0) 0 (mvs []) := Sl.of_vec ((H.refl w).nilvec MVT 4) (.head _)
theorem stL_nil : ∀ l : List (Nat × Nat), stL [] l = l
 | [] => rfl
 | p :: l => by
   rw [stL, show fndB [] p.1 p.2 = false from rfl, cond_false, stL_nil l]
variable {v k r lam t s : Nat} {A : Option Addr} {c : Nat} {rs : List IRow}
set_option maxHeartbeats 16000000 in
theorem rebuild_n {d dc : Nat} {Dd : Option Addr} {dl : List Bool} {ts : List Tk} (w : World) (hy : Lay v k r lam (ils rs) t s) (hm : IMat w (.slice A rs.length c) rs) (hs1 : 1 ≤ s) (hk12 : k ≤ 12) (hR : RbOk v k r t s (ils rs) d dl ts) (hD : Sl w 1 (.slice Dd v dc) v (bls dl)) :
   Calls Tryz.prog 20 #[layV v A c rs t s, .slice none 0 0, iv d, .slice Dd v dc] w fun e w' => ∃ u N, e = .returned u ∧ H w N w' ∧ ∃ T tc qs, qs.map TkR.abs = ts ∧ u = .tuple #[.slice T ts.length tc, iv 0] ∧ N = [rowsI (qs.map TkR.f), vec T ts.length tc TKT 5 (tkcs qs)] := by
 have hgl : (ils rs).length = rs.length := List.length_map _
 have hmo := hR.mok
 have hlost := hR.lost
 have honr := hR.onr
 have hong := hR.ong
 have hst := hR.st
 have hc1 := hR.c1
 have hu12 := hR.u12
 have hwv := hR.wv
 have hln := hR.ln
 have hfr := hR.fr
 rw [hgl] at hmo hlost honr hong hst hc1 hwv hln hfr
 have hv60 := hy.d.v60
 have hlen := hR.len
 have hdl := hR.dlen
 have hdv := hR.dlt
 have hcap := hy.cap
 have hgrp := hy.grp'
 have hm0 : MOk v k r t rs.length s (ils rs) [] := by have := hmo.take 0; rwa [List.take_zero] at this
 have hval := fun w' hb => mvalid_e (M := none) (mc := 0) w' hy (hm.below (w' := w') hb) (nilM w') rfl hs1 hk12 hm0
 have hodl : odL (ils rs) rs.length k r t [] d = (ts.map Tk.m).map fun m => (m.g, m.p) := by
   unfold odL
   rw [stL_nil, hlost, show gtL [] d = [] from rfl, List.append_nil]
 have hFl : (ts.map Tk.m).length = ts.length := List.length_map _
 have hLl : ((ts.map Tk.m).map fun m => (m.g, m.p)).length = ts.length := by rw [List.length_map, List.length_map]
 have hLn : ∀ i, i < ts.length → nth ((ts.map Tk.m).map fun m => (m.g, m.p)) i = ((nth ts i).m.g, (nth ts i).m.p) := fun i hi => by
   rw [nth_map _ (by rw [hFl]; exact hi), nth_map _ hi]
 have hFn : ∀ i, i < ts.length → nth (ts.map Tk.m) i = (nth ts i).m := fun i hi => nth_map _ hi
 have hod := fun w' hb => sondisk_n (M := none) (mc := 0) (d := d) w' hy (hm.below (w' := w') hb) (nilM w') rfl hs1 hk12 hm0 hdv hR.r1 honr hong (by
   rw [hodl]
   intro i hi
   rw [hLl] at hi
   rw [hLn i (by omega), hLn (i + 1) hi]
   have := hmo.inc i (by rw [hFl]; exact hi)
   rw [hFn i (by omega), hFn (i + 1) hi] at this
   exact this) (by rw [hodl, hLl]; exact hlen)
 rw [hodl, hLl] at hod
 have gD := bls_get (l := dl) (k := d) (by omega)
 rw [hR.dd] at gD
 generalize hLL : ((ts.map Tk.m).map fun m => (m.g, m.p)) = LL at *
 generalize hNN : ts.length = N at *
 generalize hFF : ts.map Tk.m = F at *
 refine calls_wc (args := [layV v A c rs t s, .slice none 0 0, iv d, .slice Dd v dc]) [8, 9] [] Tryz.func20 rfl Tryz.ntmps20 rfl rfl rfl rfl (H.refl _) ?_
 refine uS rfl fun K hK => ?_
 refine WL.want rfl (WL1.box rfl rfl (.mk (v := .agg _) rfl rfl) rfl (fun b4 => ?_))
 iterate 2 refine jm rfl rfl ?_
 refine wN hK ?_; clear hK
 refine WC.seq fun K hK => ?_
 refine WC.block ?_
 refine uS rfl fun K hK => ?_
 refine wG rfl rfl (g_loadA rfl (.mk rfl rfl) rfl rfl (rdr_pt (.head _) (fun j u h => by simpa using h))) ?_
 refine jm rfl rfl ?_
 refine WL.want rfl (WL1.callP rfl rfl rfl (.cons (.mk (v := .agg _) rfl rfl) (.cons (.mk (v := .slice _ _ _) rfl rfl) .nil)) (fun w hw => hval w hw.1) ?_)
 iterate 2 refine jm rfl rfl ?_
 refine qm rfl rfl ?_
 refine qn rfl rfl rfl ?_
 iterate 2 refine qa 0 rfl rfl rfl rfl ?_
 refine ql rfl rfl rfl (rd_pt (.head _) rfl) ?_
 refine qf rfl rfl (by omega) ?_
 iterate 2 refine jm rfl rfl ?_
 refine wN hK ?_; clear hK
 refine uF rfl rfl ?_
 refine uS rfl fun K hK => ?_
 refine jm rfl rfl ?_
 refine jf rfl rfl (by omega) ?_
 refine jm rfl rfl ?_
 refine qm rfl rfl ?_
 iterate 2 refine qa 0 rfl rfl rfl rfl ?_
 refine ql rfl rfl rfl (rd_pt (.head _) rfl) ?_
 refine qf rfl rfl (by omega) ?_
 iterate 2 refine jm rfl rfl ?_
 refine wN hK ?_; clear hK
 refine uF rfl rfl ?_
 refine uS rfl fun K hK => ?_
 iterate 2 refine jm rfl rfl ?_
 refine wG rfl rfl (g_indexAddr (sz := 1) rfl (.mk rfl rfl) (.mk rfl rfl) rfl rfl rfl (by omega) (fun _ _ => sl_some hD (by omega))) ?_
 refine jl rfl rfl rfl (rd_sl hD gD) ?_
 iterate 2 refine jm rfl rfl ?_
 refine wN hK ?_; clear hK
 refine uF rfl rfl ?_
 refine WC.skip ?_
 (refine hK _ _ ?_; clear hK)
 refine WC.seq fun K hK => ?_
 refine WC.split 5 rfl (by kernel_rfl) (by decide +kernel) ?_
 refine WQ.want rfl (WQ1.give rfl (g_loadA rfl (.mk rfl rfl) rfl rfl (rdr_pt (.head _) (fun j u h => by simpa using h))) ?_)
 refine ym rfl rfl ?_
 refine WQ.want rfl (WQ1.callP rfl rfl rfl (.cons (.mk (v := .slice _ _ _) rfl rfl) .nil) (fun w hw => clonenil_e w) ?_)
 refine ym rfl rfl ?_
 refine WQ.want rfl (WQ1.give rfl (g_buildS (us := [(0, [iv v, .slice A rs.length c, iv t, iv s]), (1, [.slice none 0 0]), (2, [.slice Dd v dc])]) (cs := plC v A c rs t s none 0 0 Dd dc) rfl rfl rfl rfl (.cons (.mk (v := .agg _) rfl rfl) (.cons (.mk (v := .slice _ _ _) rfl rfl) (.cons (.mk (v := .slice _ _ _) rfl rfl) .nil))) rfl (fun p hp => by simp only [List.mem_cons, List.not_mem_nil, or_false] at hp; rcases hp with rfl | rfl | rfl <;> exact ⟨_, _, rfl, rfl, Nat.le_of_ble_eq_true rfl⟩) rfl) ?_)
 refine WQ.nil ?_
 refine WY.one 5 (by decide +kernel) rfl rfl ?_
 refine WL1.box rfl rfl (.mk (v := .agg _) rfl rfl) rfl (fun b52 => ?_)
 refine WL.nil ?_
 refine uY 6 rfl (by decide +kernel) rfl (Gp rfl rfl) ?_
 refine WY.done (by decide +kernel) ?_
 (refine hK _ _ ?_; clear hK)
 refine uS rfl fun K hK => ?_
 refine wG rfl rfl (g_loadA rfl (.mk rfl rfl) rfl rfl (rdr_pt (.tail _ (.head _)) (fun j u h => by simpa using h))) ?_
 iterate 2 refine jm rfl rfl ?_
 (refine WL.want rfl (WL1.callN rfl rfl rfl (.cons (.mk (v := .agg _) rfl rfl) (.cons (.mk (v := .slice _ _ _) rfl rfl) (.cons (.mk (v := .int _ _) rfl rfl) .nil))) (fun w hw => hod w hw.1) ?_); rintro _ _ ⟨Fl, fl, rfl, rfl⟩)
 iterate 5 refine jm rfl rfl ?_
 refine wN hK ?_; clear hK
 refine uS rfl fun K hK => ?_
 refine jm rfl rfl ?_
 refine wN hK ?_; clear hK
 refine WC.seq fun K hK => ?_
 refine uS rfl fun K hK => ?_
 refine jm rfl rfl ?_
 refine jn rfl rfl rfl ?_
 refine jm rfl rfl ?_
 refine wN hK ?_; clear hK
 refine WC.block ?_
 refine WC.nilvec TKT 5 ?_
 refine WC.nilvec MVT 4 ?_
 refine WC.loopF5 (fun (i : Nat) (T : Option Addr) (tc : Nat) (_ : Option Addr × Nat) (_ : List TkR) => [(62, iv i), (61, iv N), (60, .slice Fl N fl), (13, .slice T i tc), (10, cellPtr (some ⟨b52, 0, none⟩) 0)]) (fun i T tc M qs => [rowsI (qs.map TkR.f), vec T i tc TKT 5 (tkcs qs), pt b52 PLT (plC v A c rs t s M.1 M.2 i Dd dc), vec M.1 i M.2 MVT 4 (mvs (F.take i)), vec Fl N fl MET 2 (mes LL)]) (fun i _ _ M qs => i ≤ N ∧ qs.map TkR.abs = ts.take i ∧ (i = 0 → M.1 = none ∧ M.2 = 0)) (fun i _ _ _ _ => N - i) 0 none 0 (none, 0) [] (by repeat (first | exact trivial | refine ⟨rfl, ?_⟩)) ((Imp.pick (A := vec none 0 0 TKT 5 []) (by repeat constructor) (Imp.pick (A := pt b52 PLT (plC v A c rs t s none 0 0 Dd dc)) (by repeat constructor) (Imp.pick (A := vec none 0 0 MVT 4 []) (by repeat constructor) (Imp.pick (A := vec Fl N fl MET 2 (mes LL)) (by repeat constructor) (Imp.nil _))))).trans rowsI_none) ⟨by omega, by rw [List.take_zero]; rfl, fun _ => ⟨rfl, rfl⟩⟩ ?_
 rintro i T tc ⟨M, mc⟩ qs U ⟨hi, hqs, h00⟩
 have hql : qs.length = i := by have := congrArg List.length hqs; rw [List.length_map, List.length_take, hNN] at this; omega
 by_cases hlt : i < N
 · have gM := mes_row (l := LL) (k := i) (by omega)
   have hLi := hLn i hlt
   have hFi := hFn i hlt
   have hmo2 := hmo.take (i + 1)
   have hsnF := take_snoc (l := F) (k := i) (by omega)
   rw [hFi] at hsnF
   rw [hsnF] at hmo2
   have hGb := hmo.g i (by omega)
   have hDb := hmo.d i (by omega)
   rw [hFi] at hGb hDb
   have hfri := hfr i hlt
   have hadd := fun w' L0 (hw' : H w (pt b52 PLT (plC v A c rs t s M mc i Dd dc) :: vec M i mc MVT 4 (mvs (F.take i)) :: L0) w') => add_f (w0 := w) (w := w') (L0 := L0) (bp := b52) (G := (nth ts i).m.g) (P := (nth ts i).m.p) (mv := (nth ts i).m) hy hm (by rw [List.length_take]; omega) h00 hs1 hk12 (hmo.take i) hmo2 hGb hD hdl (hwv i hlt) (hln i hlt) (hu12 i hlt) (hc1 i hlt) (hst i hlt) hDb hw'
   rw [← hfri, ← hsnF] at hadd
   have htsn := take_snoc (l := ts) (k := i) (by omega)
   rw [hLi] at gM
   clear hst hc1 hu12 hwv hln hfr hLn hFn hsnF hFi hLi hmo2 hval hod
   generalize hx : nth ts i = x at *
   obtain ⟨⟨xg, xp, xd, xb⟩, xf⟩ := x
   refine uS rfl fun K hK => ?_
   refine jt rfl rfl (by omega) ?_
   refine wN hK ?_; clear hK
   refine WC.seq fun K hK => ?_
   refine uT rfl rfl ?_
   refine WC.skip ?_
   (refine hK _ _ ?_; clear hK)
   refine WC.seq fun K hK => ?_
   refine WC.block ?_
   refine uS rfl fun K hK => ?_
   refine wG rfl rfl (g_indexAddr (sz := 2) rfl (.mk rfl rfl) (.mk rfl rfl) rfl rfl rfl (by omega) (fun w hw => vec_some hw (.tail _ (.tail _ (.tail _ (.tail _ (.head _))))) (by omega))) ?_
   refine wG rfl rfl (g_loadA rfl (.mk rfl rfl) rfl rfl (rdr_vec (cs := [iv xg, iv xp]) (by repeat constructor) (by omega) gM)) ?_
   refine WL.want rfl (WL1.alloc rfl rfl rfl rfl (fun b15 => ?_))
   refine WL.want rfl (WL1.storeAll rfl rfl (.mk rfl rfl) (.mk rfl rfl) rfl (all1 rfl) (by first | rfl | (simp [Blk.len]; done)) (.head) ?_)
   refine wN hK ?_; clear hK
   refine uS rfl fun K hK => ?_
   refine jp rfl rfl rfl ?_
   refine wG rfl rfl (g_loadA rfl (.mk rfl rfl) rfl rfl (rdr_pt (.head _) (fun j u h => by simpa using h))) ?_
   (refine WL.want rfl (WL1.callF rfl rfl rfl (.cons (.mk (v := cellPtr _ _) rfl rfl) (.cons (.mk (v := .agg _) rfl rfl) .nil)) (fun w hw => hadd w _ ((Imp.pick (A := pt b52 PLT (plC v A c rs t s M mc i Dd dc)) (by repeat constructor) (Imp.pick (A := vec M i mc MVT 4 (mvs (F.take i))) (by repeat constructor) (Imp.refl _))).h hw)) ?_); rintro _ _ ⟨F2, f2, R, rc, rfl, rfl⟩)
   iterate 3 refine jm rfl rfl ?_
   refine WL.want rfl (WL1.alloc rfl rfl rfl rfl (fun b16 => ?_))
   refine WL.want rfl (WL1.storeAll rfl rfl (.mk rfl rfl) (.mk rfl rfl) rfl (all1 rfl) (by first | rfl | (simp [Blk.len]; done)) (.head) ?_)
   refine jm rfl rfl ?_
   refine wN hK ?_; clear hK
   refine WC.seq fun K hK => ?_
   refine uS rfl fun K hK => ?_
   refine jm rfl rfl ?_
   refine jf rfl rfl (by omega) ?_
   refine wN hK ?_; clear hK
   refine uF rfl rfl ?_
   refine WC.skip ?_
   (refine hK _ _ ?_; clear hK)
   refine WC.region rfl ?_
   refine jm rfl rfl ?_
   refine wG rfl rfl (g_loadA rfl (.mk rfl rfl) rfl rfl (rdr_pt (.head _) (fun j u h => by simpa using h))) ?_
   refine WL.want rfl (WL1.lit (cs := [_, _, _, _, _]) elTk rfl rfl rfl (.cons (.mk (v := .agg _) rfl rfl) .nil) rfl (by first | (simp [Value.cells]; done) | fail) rfl rfl (fun b77 => ?_))
   refine WL.want rfl (WL1.append elTk rfl rfl (.mk rfl rfl) (.mk rfl rfl) (.tail (.tail (.tail (.tail (.tail (.tail (.tail (.head)))))))) (fun w hw => Sl.of_vec hw (.head _)) (all1 rfl) (by unfold maxLen; omega) (by omega) (fun A78 c78 => ?_))
   refine jm rfl rfl ?_
   refine wN hK ?_; clear hK
   refine WC.region rfl ?_
   refine ji rfl rfl (by omega) ?_
   refine jm rfl rfl ?_
   refine WL.nil ?_
   refine ⟨i + 1, A78, c78, (F2, f2), qs ++ [⟨⟨xg, xp, xd, xb⟩, ⟨R, rc, xf⟩⟩], (by repeat (first | exact trivial | refine ⟨rfl, ?_⟩)), ?_, ⟨by omega, ?_, fun h => by omega⟩, by omega⟩
   · rw [List.map_append, ← tkcs_snoc]
     exact (Imp.pick (A := IRow.own ⟨R, rc, xf⟩) (by repeat constructor) (Imp.pick (A := rowsI (qs.map TkR.f)) (by repeat constructor) (Imp.pick (by repeat constructor) (Imp.pick (by repeat constructor) (Imp.pick (by repeat constructor) (Imp.pick (by repeat constructor) (Imp.nil _))))))).trans rowsI_new
   · rw [List.map_append, hqs, htsn]; rfl
 · obtain rfl : i = N := by omega
   refine uS rfl fun K hK => ?_
   refine jf rfl rfl (by omega) ?_
   refine wN hK ?_; clear hK
   refine WC.seq fun K hK => ?_
   refine uF rfl rfl ?_
   refine WC.exit ?_
   (clear hK; refine hK _ _ ?_; clear hK)
   refine uS rfl fun K hK => ?_
   iterate 3 refine jm rfl rfl ?_
   refine wN hK ?_; clear hK
   refine WC.ret ?_
   exact fun w' hw' => ⟨_, _, rfl, (Imp.pick (by repeat constructor) (Imp.pick (by repeat constructor) (Imp.nil _))).h hw', T, tc, qs, by rw [hqs, List.take_of_length_le (by omega)], rfl, rfl⟩
end Go.Proofs.YtdcijljfgcjelaaGreat
namespace Go.Proofs.YtdcijljfgcjelaaGreat
set_option maxRecDepth 20000
open Go.RowKit
attribute [local irreducible] Calls
def ld1 (gs : List (List Nat)) (n k G x : Nat) : List Nat → Nat
 | [] => 0
 | p :: l => ld1 gs n k G x l + cond (Nat.beq (hmD gs n k G p) x) 1 0
def ldA (gs : List (List Nat)) (n k x : Nat) : List Tk → Nat
 | [] => 0
 | q :: l => ld1 gs n k q.m.g x q.f + ldA gs n k x l
theorem ld1_app (gs : List (List Nat)) (n k G x : Nat) : ∀ l q : List Nat, ld1 gs n k G x (l ++ q) = ld1 gs n k G x l + ld1 gs n k G x q
 | [], q => by rw [List.nil_append, ld1, Nat.zero_add]
 | p :: l, q => by rw [List.cons_append, ld1, ld1, ld1_app gs n k G x l]; omega
theorem ld1_le (gs : List (List Nat)) (n k G x : Nat) : ∀ l : List Nat, ld1 gs n k G x l ≤ l.length
 | [] => Nat.le_refl _
 | p :: l => by
   have := ld1_le gs n k G x l
   rw [ld1, List.length_cons]
   cases Nat.beq (hmD gs n k G p) x <;> simp only [cond_true, cond_false] <;> omega
theorem ldA_app (gs : List (List Nat)) (n k x : Nat) : ∀ l q : List Tk, ldA gs n k x (l ++ q) = ldA gs n k x l + ldA gs n k x q
 | [], q => by rw [List.nil_append, ldA, Nat.zero_add]
 | p :: l, q => by rw [List.cons_append, ldA, ldA, ldA_app gs n k x l]; omega
theorem ldA_le (gs : List (List Nat)) (n k x : Nat) {b : Nat} : ∀ l : List Tk, (∀ q ∈ l, q.f.length ≤ b) → ldA gs n k x l ≤ l.length * b
 | [], _ => Nat.zero_le _
 | q :: l, h => by
   have h1 := ldA_le gs n k x l fun y hy => h y (List.mem_cons_of_mem _ hy)
   have h2 := ld1_le gs n k q.m.g x q.f
   have h3 := h q (List.mem_cons_self ..)
   rw [ldA, List.length_cons, Nat.succ_mul]
   omega
theorem whD_nil (gs : List (List Nat)) (n k G p : Nat) : whD gs n k [] G p = hmD gs n k G p := rfl
variable {v k r lam t s : Nat} {A : Option Addr} {c : Nat} {rs : List IRow}
set_option maxHeartbeats 16000000 in
theorem load_e {x N tc : Nat} {T : Option Addr} {qs : List TkR} (w : World) (hy : Lay v k r lam (ils rs) t s) (hm : IMat w (.slice A rs.length c) rs) (hs1 : 1 ≤ s) (hk12 : k ≤ 12) (hT : Sl w 5 (.slice T N tc) N (tkcs qs)) (hN : qs.length = N) (hN2 : N ≤ 1000) (hrow : ∀ i, i < N → Sl w 1 (nth qs i).f.v (nth qs i).f.l.length (ldv (nth qs i).f.l)) (hg : ∀ i, i < N → (nth qs i).m.g < t * rs.length) (hp : ∀ i, i < N → (nth qs i).m.p < k) (hf : ∀ i, i < N → ∀ j, j < (nth qs i).f.l.length → nth (nth qs i).f.l j < k) (hfl : ∀ i, i < N → (nth qs i).f.l.length ≤ 100) (hx : x < v) :
   Calls Tryz.prog 24 #[layV v A c rs t s, .slice none 0 0, .slice T N tc, iv x] w fun e w' => e = .returned (.tuple #[iv (ldA (ils rs) rs.length k x (qs.map TkR.abs)), iv 0]) ∧ Below w.heap.size w w' := by
 have hv60 := hy.d.v60
 have hcap := hy.cap
 have hm0 : MOk v k r t rs.length s (ils rs) [] := ⟨fun i h => by simp at h, fun i h => by simp at h, fun i h => by simp at h, fun i h => by simp at h, fun i h => by simp at h, fun i h => by simp at h, fun i h => by simp at h, fun i h => by simp at h, by simp⟩
 have hval := fun w' hb => mvalid_e (M := none) (mc := 0) w' hy (hm.below (w' := w') hb) (nilM w') rfl hs1 hk12 hm0
 have hho := fun w' hb G p hG hp => home_e (G := G) (p := p) w' hy (hm.below (w' := w') hb) hG hp
 have hwh := fun w' hb G p hG hp => mwhere_e (M := none) (mc := 0) (G := G) (p := p) w' hy (hm.below (w' := w') hb) (nilM w') rfl hs1 hk12 hm0 hG hp
 simp only [whD_nil] at hwh
 have hlA : ∀ i, i ≤ N → ldA (ils rs) rs.length k x ((qs.take i).map TkR.abs) ≤ 1000 * 100 := fun i hi => by
   refine Nat.le_trans (ldA_le (ils rs) rs.length k x (b := 100) _ fun q hq => ?_) ?_
   · obtain ⟨z, hz, rfl⟩ := List.mem_map.1 hq
     obtain ⟨j, hj, rfl⟩ := List.getElem_of_mem hz
     rw [List.length_take] at hj
     rw [List.getElem_take, ← nth_eq (by omega)]
     exact hfl j (by omega)
   · rw [List.length_map, List.length_take]
     exact Nat.mul_le_mul_right _ (by omega)
 refine calls_wc (args := [layV v A c rs t s, .slice none 0 0, .slice T N tc, iv x]) [8, 9] [] Tryz.func24 rfl Tryz.ntmps24 rfl rfl rfl rfl (H.refl _) ?_
 refine uS rfl fun K hK => ?_
 refine WL.want rfl (WL1.box rfl rfl (.mk (v := .agg _) rfl rfl) rfl (fun b4 => ?_))
 iterate 2 refine jm rfl rfl ?_
 refine wN hK ?_; clear hK
 refine WC.seq fun K hK => ?_
 refine uS rfl fun K hK => ?_
 refine wG rfl rfl (g_loadA rfl (.mk rfl rfl) rfl rfl (rdr_pt (.head _) (fun j u h => by simpa using h))) ?_
 refine jm rfl rfl ?_
 refine WL.want rfl (WL1.callP rfl rfl rfl (.cons (.mk (v := .agg _) rfl rfl) (.cons (.mk (v := .slice _ _ _) rfl rfl) .nil)) (fun w hw => hval w hw.1) ?_)
 refine jm rfl rfl ?_
 refine wN hK ?_; clear hK
 refine uF rfl rfl ?_
 refine WC.skip ?_
 (refine hK _ _ ?_; clear hK)
 refine uS rfl fun K hK => ?_
 refine jm rfl rfl ?_
 refine wN hK ?_; clear hK
 refine WC.seq fun K hK => ?_
 refine uS rfl fun K hK => ?_
 refine jm rfl rfl ?_
 refine jn rfl rfl rfl ?_
 refine jm rfl rfl ?_
 refine wN hK ?_; clear hK
 refine WC.block ?_
 refine WC.loopF (fun i : Nat => [(27, iv i), (26, iv N), (25, .slice T N tc), (10, iv (ldA (ils rs) rs.length k x ((qs.take i).map TkR.abs))), (3, iv x), (1, .slice none 0 0), (4, cellPtr (some ⟨b4, 0, none⟩) 0)]) (fun _ => [pt b4 LT [iv v, .slice A rs.length c, iv t, iv s]]) (fun i => i ≤ N) (fun i => N - i) 0 (by repeat (first | exact trivial | refine ⟨rfl, ?_⟩)) (Imp.pick (by repeat constructor) (Imp.nil _)) (by omega) ?_
 intro i U hi
 have hla := hlA i hi
 by_cases hlt : i < N
 · have hts := take_snoc (l := qs) (k := i) (by omega)
   have hsn : ldA (ils rs) rs.length k x ((qs.take (i + 1)).map TkR.abs) = ldA (ils rs) rs.length k x ((qs.take i).map TkR.abs) + ld1 (ils rs) rs.length k (nth qs i).m.g x (nth qs i).f.l := by
     rw [hts, List.map_append, ldA_app]; rfl
   have gT := tkcs_row (l := qs) (k := i) (by omega)
   have hri := hrow i hlt
   have hGi := hg i hlt
   have hPi := hp i hlt
   have hFi := hf i hlt
   have hFl := hfl i hlt
   generalize ldA (ils rs) rs.length k x ((qs.take i).map TkR.abs) = na at *
   generalize hq : nth qs i = q at *
   obtain ⟨⟨xg, xp, xd, xb⟩, ⟨RA, rc, xf⟩⟩ := q
   replace hri : Sl w 1 (.slice RA xf.length rc) xf.length (ldv xf) := hri
   replace hGi : xg < t * rs.length := hGi
   replace hPi : xp < k := hPi
   replace hFi : ∀ j, j < xf.length → nth xf j < k := hFi
   replace hFl : xf.length ≤ 100 := hFl
   replace hsn : ldA (ils rs) rs.length k x ((qs.take (i + 1)).map TkR.abs) = na + ld1 (ils rs) rs.length k xg x xf := hsn
   replace gT : ∀ j u, [iv xg, iv xp, .slice RA xf.length rc, iv xd, iv xb][j]? = some u → (tkcs qs)[i * 5 + j]? = some u := gT
   have hcs : [iv xp] ++ ldv xf = ldv (xp :: xf) := rfl
   have hz : 1 + xf.length = xf.length + 1 := Nat.add_comm _ _
   have hone : ∀ u ∈ ldv xf, u.oneCell' = true := by
     intro u hu
     obtain ⟨y, _, rfl⟩ := List.mem_map.1 hu
     rfl
   refine uS rfl fun K hK => ?_
   refine jt rfl rfl (by omega) ?_
   refine wN hK ?_; clear hK
   refine WC.seq fun K hK => ?_
   refine uT rfl rfl ?_
   refine WC.skip ?_
   (refine hK _ _ ?_; clear hK)
   refine WC.seq fun K hK => ?_
   refine WC.block ?_
   refine uS rfl fun K hK => ?_
   refine wG rfl rfl (g_indexAddr (sz := 5) rfl (.mk rfl rfl) (.mk rfl rfl) rfl rfl rfl (by omega) (fun _ _ => sl_some hT (by omega))) ?_
   refine wG rfl rfl (g_loadA rfl (.mk rfl rfl) rfl rfl (rdr_sl (cs := [iv xg, iv xp, .slice RA xf.length rc, iv xd, iv xb]) hT (by omega) gT)) ?_
   refine WL.want rfl (WL1.alloc rfl rfl rfl rfl (fun b12 => ?_))
   refine WL.want rfl (WL1.storeAll rfl rfl (.mk rfl rfl) (.mk rfl rfl) rfl (all1 rfl) (by first | rfl | (simp [Blk.len]; done)) (.head) ?_)
   refine wN hK ?_; clear hK
   refine WC.seq fun K hK => ?_
   refine uS rfl fun K hK => ?_
   refine ja 1 rfl rfl rfl rfl ?_
   refine jl rfl rfl rfl (rd_pt (.head _) rfl) ?_
   refine WL.want rfl (WL1.lit (cs := [_]) elI rfl rfl rfl (.cons (.mk (v := .int _ _) rfl rfl) .nil) rfl (by first | (simp [Value.cells]; done) | fail) rfl rfl (fun b33 => ?_))
   refine ja 2 rfl rfl rfl rfl ?_
   refine jl rfl rfl rfl (rd_pt (.tail _ (.head _)) rfl) ?_
   refine WL.want rfl (WL1.append elI rfl rfl (.mk rfl rfl) (.mk rfl rfl) (.head) (fun w hw => Sl.below hri hw.1) hone (by unfold maxLen; omega) (by omega) (fun A36 c36 => ?_))
   refine jn rfl rfl rfl ?_
   refine jm rfl rfl ?_
   refine wN hK ?_; clear hK
   refine WC.block ?_
   rw [show [Value.int IntKind.i64 (xp : Int)] ++ ldv xf = ldv (xp :: xf) from rfl, hz]
   refine WC.loopF (fun j : Nat => [(38, iv j), (37, iv ((xf.length + 1 : Nat) : Int)), (36, .slice A36 (xf.length + 1) c36), (12, cellPtr (some ⟨b12, 0, none⟩) 0), (27, iv i), (26, iv N), (25, .slice T N tc), (10, iv na), (3, iv x), (1, .slice none 0 0), (4, cellPtr (some ⟨b4, 0, none⟩) 0)]) (fun _ => [vec A36 (xf.length + 1) c36 3 1 (ldv (xp :: xf)), pt b12 TKT [iv xg, iv xp, .slice RA xf.length rc, iv xd, iv xb], pt b4 LT [iv v, .slice A rs.length c, iv t, iv s]]) (fun j => j ≤ xf.length + 1) (fun j => xf.length + 1 - j) 0 ⟨rfl, by rw [← hz]; rfl, rfl, rfl, rfl, rfl, rfl, rfl, rfl, rfl, rfl, trivial⟩ (Imp.pick (by repeat constructor) (Imp.pick (by repeat constructor) (Imp.pick (by repeat constructor) (Imp.nil _)))) (by omega) ?_
   intro j U2 hj
   by_cases hlt2 : j < xf.length + 1
   · have gv := ldv_get (ld := xp :: xf) (k := j) hlt2
     have hpj : nth (xp :: xf) j < k := by
       cases j with
       | zero => exact hPi
       | succ j =>
         have : nth (xp :: xf) (j + 1) = nth xf j := rfl
         rw [this]; exact hFi j (by omega)
     have hh := fun w' hb => hho w' hb xg (nth (xp :: xf) j) hGi hpj
     generalize nth (xp :: xf) j = y at *
     generalize hmD (ils rs) rs.length k xg y = y1 at *
     generalize hmB (ils rs) rs.length k r xg y = y2 at *
     refine uS rfl fun K hK => ?_
     refine jt rfl rfl (by omega) ?_
     refine wN hK ?_; clear hK
     refine WC.seq fun K hK => ?_
     refine uT rfl rfl ?_
     refine WC.skip ?_
     (refine hK _ _ ?_; clear hK)
     refine WC.seq fun K hK => ?_
     refine WC.block ?_
     refine uS rfl fun K hK => ?_
     refine wG rfl rfl (g_indexAddr (sz := 1) rfl (.mk rfl rfl) (.mk rfl rfl) rfl rfl rfl (by omega) (fun w hw => vec_some hw (.head _) (by omega))) ?_
     refine jl rfl rfl rfl (rd_vec (by repeat constructor) gv) ?_
     refine jm rfl rfl ?_
     refine wN hK ?_; clear hK
     refine uS rfl fun K hK => ?_
     refine wG rfl rfl (g_loadA rfl (.mk rfl rfl) rfl rfl (rdr_pt (.tail _ (.tail _ (.head _))) (fun j u h => by simpa using h))) ?_
     refine ja 0 rfl rfl rfl rfl ?_
     refine jl rfl rfl rfl (rd_pt (.tail _ (.head _)) rfl) ?_
     refine jm rfl rfl ?_
     refine WL.want rfl (WL1.callP rfl rfl rfl (.cons (.mk (v := .agg _) rfl rfl) (.cons (.mk (v := .int _ _) rfl rfl) (.cons (.mk (v := .int _ _) rfl rfl) .nil))) (fun w hw => hh w hw.1) ?_)
     iterate 3 refine jm rfl rfl ?_
     refine WL.want rfl (WL1.alloc rfl rfl rfl rfl (fun b15 => ?_))
     refine WL.want rfl (WL1.storeAll rfl rfl (.mk rfl rfl) (.mk rfl rfl) rfl (all1 rfl) (by first | rfl | (simp [Blk.len]; done)) (.head) ?_)
     refine jm rfl rfl ?_
     refine wN hK ?_; clear hK
     refine uS rfl fun K hK => ?_
     refine jm rfl rfl ?_
     refine jf rfl rfl (by omega) ?_
     refine wN hK ?_; clear hK
     refine uF rfl rfl ?_
     refine WC.skip ?_
     (refine hK _ _ ?_; clear hK)
     refine WC.region rfl ?_
     refine ji rfl rfl (by omega) ?_
     refine jm rfl rfl ?_
     refine WL.nil ?_
     exact ⟨j + 1, (by repeat (first | exact trivial | refine ⟨rfl, ?_⟩)), Imp.pick (by repeat constructor) (Imp.pick (by repeat constructor) (Imp.pick (by repeat constructor) (Imp.nil _))), by omega, by omega⟩
   obtain rfl : j = xf.length + 1 := by omega
   refine uS rfl fun K hK => ?_
   refine jf rfl rfl (by omega) ?_
   refine wN hK ?_; clear hK
   refine WC.seq fun K hK => ?_
   refine uF rfl rfl ?_
   refine WC.exit ?_
   (clear hK; refine hK _ _ ?_; clear hK)
   refine uS rfl fun K hK => ?_
   refine ja 2 rfl rfl rfl rfl ?_
   refine jl rfl rfl rfl (rd_pt (.tail _ (.head _)) rfl) ?_
   refine jn rfl rfl rfl ?_
   refine jm rfl rfl ?_
   refine wN hK ?_; clear hK
   refine WC.block ?_
   refine WC.loopF (fun j : Nat => [(56, iv j), (55, iv xf.length), (54, .slice RA xf.length rc), (12, cellPtr (some ⟨b12, 0, none⟩) 0), (27, iv i), (26, iv N), (25, .slice T N tc), (10, iv ((na + ld1 (ils rs) rs.length k xg x (xf.take j) : Nat) : Int)), (3, iv x), (1, .slice none 0 0), (4, cellPtr (some ⟨b4, 0, none⟩) 0)]) (fun _ => [pt b12 TKT [iv xg, iv xp, .slice RA xf.length rc, iv xd, iv xb], pt b4 LT [iv v, .slice A rs.length c, iv t, iv s]]) (fun j => j ≤ xf.length) (fun j => xf.length - j) 0 (by repeat (first | exact trivial | refine ⟨rfl, ?_⟩)) (Imp.pick (by repeat constructor) (Imp.pick (by repeat constructor) (Imp.nil _))) (by omega) ?_
   intro j U3 hj
   have hl1 := ld1_le (ils rs) rs.length k xg x (xf.take j)
   rw [List.length_take] at hl1
   by_cases hlt3 : j < xf.length
   · have gv := ldv_get (ld := xf) (k := j) hlt3
     have hpj := hFi j hlt3
     have hw2 := fun w' hb => hwh w' hb xg (nth xf j) hGi hpj
     have hst : ld1 (ils rs) rs.length k xg x (xf.take (j + 1)) = ld1 (ils rs) rs.length k xg x (xf.take j) + cond (Nat.beq (hmD (ils rs) rs.length k xg (nth xf j)) x) 1 0 := by
       rw [take_snoc hlt3, ld1_app, ld1, ld1, Nat.zero_add]
     rw [nbeq_iff] at hst
     generalize ld1 (ils rs) rs.length k xg x (xf.take j) = nj at *
     generalize nth xf j = y at *
     generalize hmD (ils rs) rs.length k xg y = y1 at *
     generalize whB (ils rs) rs.length k r [] xg y = y2 at *
     by_cases he : y1 = x
     · rw [decide_eq_true he, cond_true] at hst
       have had : IntKind.i64.wrap (((na + nj : Nat) : Int) + 1) = ((na + (nj + 1) : Nat) : Int) := by rw [IntWalk.i64_in _ (by omega)]; omega
       refine uS rfl fun K hK => ?_
       refine jt rfl rfl (by omega) ?_
       refine wN hK ?_; clear hK
       refine WC.seq fun K hK => ?_
       refine uT rfl rfl ?_
       refine WC.skip ?_
       (refine hK _ _ ?_; clear hK)
       refine WC.seq fun K hK => ?_
       refine WC.block ?_
       refine uS rfl fun K hK => ?_
       refine wG rfl rfl (g_indexAddr (sz := 1) rfl (.mk rfl rfl) (.mk rfl rfl) rfl rfl rfl (by omega) (fun _ _ => sl_some hri (by omega))) ?_
       refine jl rfl rfl rfl (rd_sl hri gv) ?_
       refine jm rfl rfl ?_
       refine wN hK ?_; clear hK
       refine uS rfl fun K hK => ?_
       refine wG rfl rfl (g_loadA rfl (.mk rfl rfl) rfl rfl (rdr_pt (.tail _ (.head _)) (fun j u h => by simpa using h))) ?_
       refine jm rfl rfl ?_
       refine ja 0 rfl rfl rfl rfl ?_
       refine jl rfl rfl rfl (rd_pt (.head _) rfl) ?_
       refine jm rfl rfl ?_
       refine WL.want rfl (WL1.callP rfl rfl rfl (.cons (.mk (v := .agg _) rfl rfl) (.cons (.mk (v := .slice _ _ _) rfl rfl) (.cons (.mk (v := .int _ _) rfl rfl) (.cons (.mk (v := .int _ _) rfl rfl) .nil)))) (fun w hw => hw2 w hw.1) ?_)
       iterate 3 refine jm rfl rfl ?_
       refine WL.want rfl (WL1.alloc rfl rfl rfl rfl (fun b19 => ?_))
       refine WL.want rfl (WL1.storeAll rfl rfl (.mk rfl rfl) (.mk rfl rfl) rfl (all1 rfl) (by first | rfl | (simp [Blk.len]; done)) (.head) ?_)
       refine jm rfl rfl ?_
       refine wN hK ?_; clear hK
       refine uS rfl fun K hK => ?_
       refine ja 0 rfl rfl rfl rfl ?_
       refine jl rfl rfl rfl (rd_pt (.head _) rfl) ?_
       refine jm rfl rfl ?_
       refine jt rfl rfl (by omega) ?_
       refine wN hK ?_; clear hK
       refine uT rfl rfl ?_
       refine WC.region rfl ?_
       refine jm rfl rfl ?_
       refine wG rfl rfl (g_add rfl (.mk rfl rfl) (.mk rfl rfl) had) ?_
       refine jm rfl rfl ?_
       refine wN hK ?_; clear hK
       refine WC.region rfl ?_
       refine ji rfl rfl (by omega) ?_
       refine jm rfl rfl ?_
       refine WL.nil ?_
       exact ⟨j + 1, by rw [hst]; exact (by repeat (first | exact trivial | refine ⟨rfl, ?_⟩)), Imp.pick (by repeat constructor) (Imp.pick (by repeat constructor) (Imp.nil _)), by omega, by omega⟩
     · rw [decide_eq_false he, cond_false, Nat.add_zero] at hst
       refine uS rfl fun K hK => ?_
       refine jt rfl rfl (by omega) ?_
       refine wN hK ?_; clear hK
       refine WC.seq fun K hK => ?_
       refine uT rfl rfl ?_
       refine WC.skip ?_
       (refine hK _ _ ?_; clear hK)
       refine WC.seq fun K hK => ?_
       refine WC.block ?_
       refine uS rfl fun K hK => ?_
       refine wG rfl rfl (g_indexAddr (sz := 1) rfl (.mk rfl rfl) (.mk rfl rfl) rfl rfl rfl (by omega) (fun _ _ => sl_some hri (by omega))) ?_
       refine jl rfl rfl rfl (rd_sl hri gv) ?_
       refine jm rfl rfl ?_
       refine wN hK ?_; clear hK
       refine uS rfl fun K hK => ?_
       refine wG rfl rfl (g_loadA rfl (.mk rfl rfl) rfl rfl (rdr_pt (.tail _ (.head _)) (fun j u h => by simpa using h))) ?_
       refine jm rfl rfl ?_
       refine ja 0 rfl rfl rfl rfl ?_
       refine jl rfl rfl rfl (rd_pt (.head _) rfl) ?_
       refine jm rfl rfl ?_
       refine WL.want rfl (WL1.callP rfl rfl rfl (.cons (.mk (v := .agg _) rfl rfl) (.cons (.mk (v := .slice _ _ _) rfl rfl) (.cons (.mk (v := .int _ _) rfl rfl) (.cons (.mk (v := .int _ _) rfl rfl) .nil)))) (fun w hw => hw2 w hw.1) ?_)
       iterate 3 refine jm rfl rfl ?_
       refine WL.want rfl (WL1.alloc rfl rfl rfl rfl (fun b19 => ?_))
       refine WL.want rfl (WL1.storeAll rfl rfl (.mk rfl rfl) (.mk rfl rfl) rfl (all1 rfl) (by first | rfl | (simp [Blk.len]; done)) (.head) ?_)
       refine jm rfl rfl ?_
       refine wN hK ?_; clear hK
       refine uS rfl fun K hK => ?_
       refine ja 0 rfl rfl rfl rfl ?_
       refine jl rfl rfl rfl (rd_pt (.head _) rfl) ?_
       refine jm rfl rfl ?_
       refine jf rfl rfl (by omega) ?_
       refine wN hK ?_; clear hK
       refine uF rfl rfl ?_
       refine WC.skip ?_
       (refine hK _ _ ?_; clear hK)
       refine WC.region rfl ?_
       refine ji rfl rfl (by omega) ?_
       refine jm rfl rfl ?_
       refine WL.nil ?_
       exact ⟨j + 1, by rw [hst]; exact (by repeat (first | exact trivial | refine ⟨rfl, ?_⟩)), Imp.pick (by repeat constructor) (Imp.pick (by repeat constructor) (Imp.nil _)), by omega, by omega⟩
   · obtain rfl : j = xf.length := by omega
     rw [List.take_length, ← hsn]
     refine uS rfl fun K hK => ?_
     refine jf rfl rfl (by omega) ?_
     refine wN hK ?_; clear hK
     refine WC.seq fun K hK => ?_
     refine uF rfl rfl ?_
     refine WC.exit ?_
     (clear hK; refine hK _ _ ?_; clear hK)
     refine WC.region rfl ?_
     refine ji rfl rfl (by omega) ?_
     refine jm rfl rfl ?_
     refine WL.nil ?_
     exact ⟨i + 1, (by repeat (first | exact trivial | refine ⟨rfl, ?_⟩)), Imp.pick (by repeat constructor) (Imp.nil _), by omega, by omega⟩
 · obtain rfl : i = N := by omega
   rw [List.take_of_length_le (by omega)] at hla ⊢
   refine uS rfl fun K hK => ?_
   refine jf rfl rfl (by omega) ?_
   refine wN hK ?_; clear hK
   refine WC.seq fun K hK => ?_
   refine uF rfl rfl ?_
   refine WC.exit ?_
   (clear hK; refine hK _ _ ?_; clear hK)
   refine WC.seq fun K hK => ?_
   refine uS rfl fun K hK => ?_
   refine jm rfl rfl ?_
   refine jf rfl rfl (by omega) ?_
   refine jm rfl rfl ?_
   refine qm rfl rfl ?_
   iterate 2 refine qa 0 rfl rfl rfl rfl ?_
   refine ql rfl rfl rfl (rd_pt (.head _) rfl) ?_
   refine qf rfl rfl (by omega) ?_
   refine jm rfl rfl ?_
   refine wN hK ?_; clear hK
   refine uF rfl rfl ?_
   refine WC.skip ?_
   (refine hK _ _ ?_; clear hK)
   refine uS rfl fun K hK => ?_
   iterate 3 refine jm rfl rfl ?_
   refine wN hK ?_; clear hK
   refine WC.ret ?_
   exact fun w' hw' => ⟨rfl, hw'.1⟩
def shN (k lam t : Nat) : Nat := 2 * lam + (t * lam * (k - 3) + (k - 1) - 1) / (k - 1)
set_option maxHeartbeats 8000000 in
theorem share_e (w : World) (hy : Lay v k r lam (ils rs) t s) (hm : IMat w (.slice A rs.length c) rs) (hlam : lam ≤ 100000) :
   Calls Tryz.prog 25 #[layV v A c rs t s] w fun e w' => e = .returned (iv (shN k lam t)) ∧ Below w.heap.size w w' := by
 have hk4 := hy.k4
 have hk16 := hy.k16
 have ht := hy.t256
 have hval := fun w' hb => lvalid_e w' hy (hm.below (w' := w') hb)
 have hck := fun w' hb => check_d w' hy.d hy.b (hm.below (w' := w') hb)
 have hda := fun w' hb => ldata_e w' hy (hm.below (w' := w') hb)
 have hwi := fun w' hb => lwidth_e w' hy (hm.below (w' := w') hb)
 have b1 : t * lam ≤ 256 * 100000 := Nat.mul_le_mul ht hlam
 have b2 : t * lam * (k - 3) ≤ 256 * 100000 * 13 := Nat.mul_le_mul b1 (by omega)
 have q1 : IntKind.i64.wrap ((t : Int) * (lam : Int)) = ((t * lam : Nat) : Int) := by
   rw [← Int.natCast_mul]
   generalize t * lam = z at b1 ⊢
   exact IntWalk.i64_in _ (by omega)
 have q2 : IntKind.i64.wrap (((t * lam : Nat) : Int) * ((k : Int) - 3)) = ((t * lam * (k - 3) : Nat) : Int) := by
   rw [show (k : Int) - 3 = ((k - 3 : Nat) : Int) from by omega, ← Int.natCast_mul]
   generalize t * lam * (k - 3) = z at b2 ⊢
   exact IntWalk.i64_in _ (by omega)
 have q3 : IntKind.i64.wrap ((k : Int) - 1) = ((k - 1 : Nat) : Int) := by rw [IntWalk.i64_in _ (by omega)]; omega
 have q4 : IntKind.i64.wrap (2 * (lam : Int)) = ((2 * lam : Nat) : Int) := by rw [IntWalk.i64_in _ (by omega)]; omega
 unfold shN
 generalize t * lam * (k - 3) = al at *
 generalize t * lam = tl at *
 have q5 : IntKind.i64.wrap ((al : Int) + ((k - 1 : Nat) : Int)) = ((al + (k - 1) : Nat) : Int) := by rw [IntWalk.i64_in _ (by omega)]; omega
 have q6 : IntKind.i64.wrap (((al + (k - 1) : Nat) : Int) - 1) = ((al + (k - 1) - 1 : Nat) : Int) := by rw [IntWalk.i64_in _ (by omega)]; omega
 have hdl : (al + (k - 1) - 1) / (k - 1) ≤ al + (k - 1) - 1 := Nat.div_le_self _ _
 have q7 : IntKind.i64.wrap (((al + (k - 1) - 1 : Nat) : Int).tdiv ((k - 1 : Nat) : Int)) = (((al + (k - 1) - 1) / (k - 1) : Nat) : Int) := by
   rw [show (((al + (k - 1) - 1 : Nat) : Int).tdiv ((k - 1 : Nat) : Int)) = (((al + (k - 1) - 1) / (k - 1) : Nat) : Int) from rfl]
   generalize (al + (k - 1) - 1) / (k - 1) = z at hdl ⊢
   exact IntWalk.i64_in _ (by omega)
 generalize (al + (k - 1) - 1) / (k - 1) = dv at *
 have q8 : IntKind.i64.wrap (((2 * lam : Nat) : Int) + (dv : Int)) = ((2 * lam + dv : Nat) : Int) := by rw [IntWalk.i64_in _ (by omega)]; omega
 have hk1 : ((k - 1 : Nat) : Int) ≠ 0 := by omega
 have gD : ∀ j u, [iv v, .slice A rs.length c][j]? = some u → [iv v, .slice A rs.length c, iv t, iv s][0 + (0 + 0 + j)]? = some u := fun j u h => pre_get (es := [iv t, iv s]) (by omega) h
 refine calls_wc (args := [layV v A c rs t s]) [2] [] Tryz.func25 rfl Tryz.ntmps25 rfl rfl rfl rfl (H.refl _) ?_
 refine uS rfl fun K hK => ?_
 refine WL.want rfl (WL1.box rfl rfl (.mk (v := .agg _) rfl rfl) rfl (fun b1 => ?_))
 refine jm rfl rfl ?_
 refine wN hK ?_; clear hK
 refine WC.seq fun K hK => ?_
 refine uS rfl fun K hK => ?_
 refine wG rfl rfl (g_loadA rfl (.mk rfl rfl) rfl rfl (rdr_pt (.head _) (fun j u h => by simpa using h))) ?_
 refine WL.want rfl (WL1.callP rfl rfl rfl (.cons (.mk (v := .agg _) rfl rfl) .nil) (fun w hw => hval w hw.1) ?_)
 refine jm rfl rfl ?_
 refine wN hK ?_; clear hK
 refine uF rfl rfl ?_
 refine WC.skip ?_
 (refine hK _ _ ?_; clear hK)
 refine uS rfl fun K hK => ?_
 refine ja 0 rfl rfl rfl rfl ?_
 refine wG rfl rfl (g_loadA rfl (.mk rfl rfl) rfl rfl (rdr_pt (cs := [iv v, .slice A rs.length c]) (by repeat constructor) gD)) ?_
 refine WL.want rfl (WL1.callP rfl rfl rfl (.cons (.mk (v := .agg _) rfl rfl) .nil) (fun w hw => hck w hw.1) ?_)
 iterate 7 refine jm rfl rfl ?_
 refine wN hK ?_; clear hK
 refine WC.seq fun K hK => ?_
 refine WC.quiet rfl (by kernel_rfl) (by decide +kernel) ?_
 refine ya 2 rfl rfl rfl rfl ?_
 refine yl rfl rfl rfl (rd_pt (.head _) rfl) ?_
 refine ym rfl rfl ?_
 refine WQ.want rfl (WQ1.give rfl (g_mul rfl (.mk rfl rfl) (.mk rfl rfl) q1) ?_)
 refine WQ.want rfl (WQ1.give rfl (g_loadA rfl (.mk rfl rfl) rfl rfl (rdr_pt (.head _) (fun j u h => by simpa using h))) ?_)
 refine WQ.want rfl (WQ1.callP rfl rfl rfl (.cons (.mk (v := .agg _) rfl rfl) .nil) (fun w hw => hda w hw.1) ?_)
 refine WQ.want rfl (WQ1.give rfl (g_mul rfl (.mk rfl rfl) (.mk rfl rfl) q2) ?_)
 refine WQ.want rfl (WQ1.give rfl (g_loadA rfl (.mk rfl rfl) rfl rfl (rdr_pt (.head _) (fun j u h => by simpa using h))) ?_)
 refine WQ.want rfl (WQ1.callP rfl rfl rfl (.cons (.mk (v := .agg _) rfl rfl) .nil) (fun w hw => hwi w hw.1) ?_)
 refine WQ.want rfl (WQ1.give rfl (g_sub rfl (.mk rfl rfl) (.mk rfl rfl) q3) ?_)
 iterate 2 refine ym rfl rfl ?_
 refine WQ.nil ?_
 (refine hK _ _ ?_; clear hK)
 refine uS rfl fun K hK => ?_
 refine jm rfl rfl ?_
 refine wG rfl rfl (g_mul rfl (.mk rfl rfl) (.mk rfl rfl) q4) ?_
 iterate 2 refine jm rfl rfl ?_
 refine wG rfl rfl (g_add rfl (.mk rfl rfl) (.mk rfl rfl) q5) ?_
 refine wG rfl rfl (g_sub rfl (.mk rfl rfl) (.mk rfl rfl) q6) ?_
 refine jm rfl rfl ?_
 refine wG rfl rfl (g_quo rfl (.mk rfl rfl) (.mk rfl rfl) hk1 q7) ?_
 refine wG rfl rfl (g_add rfl (.mk rfl rfl) (.mk rfl rfl) q8) ?_
 refine jm rfl rfl ?_
 refine wN hK ?_; clear hK
 refine WC.ret ?_
 exact fun w' hw' => ⟨rfl, hw'.1⟩
end Go.Proofs.YtdcijljfgcjelaaGreat
namespace Go.Proofs.YtdcijljfgcjelaaGreat
set_option maxRecDepth 20000
open Go.RowKit
attribute [local irreducible] Calls
variable {v k r lam t s : Nat} {A : Option Addr} {c : Nat} {rs : List IRow}
set_option maxHeartbeats 16000000 in
theorem rcheck_d (w : World) (hd : Dsg v k (ils rs)) (hB : Bal v (ils rs) r lam) (hm : IMat w (.slice A rs.length c) rs) :
   Calls Tryz.prog 56 #[dsgV v A c rs] w fun e w' => e = .returned (.tuple #[iv r, iv lam, .bool true]) ∧ Below w.heap.size w w' := by
 have hs := hm.1
 have hcn := hd.cnt
 have hv2 := hd.v2
 have hv60 := hd.v60
 have hk2 := hd.k2
 have hk60 := hd.k60
 have hgl : (ils rs).length = rs.length := List.length_map _
 obtain ⟨A0, c0, e0, hrk0, h1⟩ := row0 hd
 have g0 := irowv_get (rs := rs) (k := 0) (by omega)
 rw [e0] at g0
 unfold IRow.v at g0
 rw [hrk0] at g0
 refine calls_wc (args := [dsgV v A c rs]) [2, 3, 4] [] Tryz.func56 rfl Tryz.ntmps56 rfl rfl rfl rfl (H.refl _) ?_
 refine uS rfl fun K hK => ?_
 refine WL.want rfl (WL1.box rfl rfl (.mk (v := .agg _) rfl rfl) rfl (fun b1 => ?_))
 iterate 3 refine jm rfl rfl ?_
 refine wN hK ?_; clear hK
 refine WC.seq fun K hK => ?_
 refine uS rfl fun K hK => ?_
 refine ja 0 rfl rfl rfl rfl ?_
 refine jl rfl rfl rfl (rd_pt (.head _) rfl) ?_
 refine jf rfl rfl (by omega) ?_
 refine jm rfl rfl ?_
 refine qa 0 rfl rfl rfl rfl ?_
 refine ql rfl rfl rfl (rd_pt (.head _) rfl) ?_
 refine qf rfl rfl (by omega) ?_
 iterate 2 refine jm rfl rfl ?_
 refine qa 1 rfl rfl rfl rfl ?_
 refine ql rfl rfl rfl (rd_pt (.head _) rfl) ?_
 refine qn rfl rfl rfl ?_
 refine qf rfl rfl (by omega) ?_
 iterate 2 refine jm rfl rfl ?_
 refine qa 1 rfl rfl rfl rfl ?_
 refine ql rfl rfl rfl (rd_pt (.head _) rfl) ?_
 refine qn rfl rfl rfl ?_
 refine qf rfl rfl (by omega) ?_
 refine jm rfl rfl ?_
 refine wN hK ?_; clear hK
 refine uF rfl rfl ?_
 refine WC.skip ?_
 (refine hK _ _ ?_; clear hK)
 refine WC.seq ?_
 intro K hK
 refine WC.region rfl ?_
 refine WL.want rfl (WL1.alloc rfl rfl ct_zero ct_cells (fun b5 => ?_))
 refine wN hK ?_; clear hK
 refine WC.seq fun K hK => ?_
 refine uS rfl fun K hK => ?_
 refine jm rfl rfl ?_
 refine wN hK ?_; clear hK
 refine WC.block ?_
 refine WC.loopF (fun i : Nat => [(6, iv i), (5, cellPtr (some ⟨b5, 0, none⟩) 0), (1, cellPtr (some ⟨b1, 0, none⟩) 0)]) (fun i => [pt b5 CTT (mcl (prAll ((ils rs).take i))), pt b1 DT [iv v, .slice A rs.length c]]) (fun i => i ≤ rs.length) (fun i => rs.length - i) 0 (by repeat (first | exact trivial | refine ⟨rfl, ?_⟩)) (Imp.pick (by repeat constructor) (Imp.pick (by repeat constructor) (Imp.nil _))) (by omega) ?_
 intro i U hi
 by_cases hlt : i < rs.length
 · obtain ⟨A1, c1, e1, s1⟩ := irow_at hm hlt
   have hrl := hd.len i (by omega)
   have hrv := hd.lt i (by omega)
   have hri := hd.inc i (by omega)
   rw [hrl] at s1
   have gR : (rs.map IRow.v)[i * 1]? = some (.slice A1 k c1) := by rw [irowv_get hlt, e1]; unfold IRow.v; rw [hrl]
   have hsnA : prAll ((ils rs).take (i + 1)) = prAll ((ils rs).take i) ++ prR (nth (ils rs) i) (nth (ils rs) i) := by
     rw [take_snoc (by omega)]; unfold prAll; rw [List.flatMap_append]; simp
   have hbnd : ∀ g ∈ (ils rs).take i, g.length ≤ 60 := fun g hg => by
     have hz := List.mem_of_mem_take hg
     obtain ⟨y, hy, rfl⟩ := List.getElem_of_mem hz
     rw [← nth_eq hy, hd.len y hy]; exact hk60
   generalize hrow : nth (ils rs) i = row at *
   refine WC.seq fun K hK => ?_
   refine uS rfl fun K hK => ?_
   refine jm rfl rfl ?_
   refine ja 1 rfl rfl rfl rfl ?_
   refine jl rfl rfl rfl (rd_pt (.tail _ (.head _)) rfl) ?_
   refine jn rfl rfl rfl ?_
   refine jt rfl rfl (by omega) ?_
   refine wN hK ?_; clear hK
   refine uT rfl rfl ?_
   refine WC.skip ?_
   (refine hK _ _ ?_; clear hK)
   refine WC.seq fun K hK => ?_
   refine WC.block ?_
   refine uS rfl fun K hK => ?_
   refine ja 1 rfl rfl rfl rfl ?_
   refine jl rfl rfl rfl (rd_pt (.tail _ (.head _)) rfl) ?_
   refine jm rfl rfl ?_
   refine wG rfl rfl (g_indexAddr (sz := 1) rfl (.mk rfl rfl) (.mk rfl rfl) rfl rfl rfl (by omega) (fun _ _ => sl_some hs (by omega))) ?_
   refine jl rfl rfl rfl (rd_sl hs gR) ?_
   refine jm rfl rfl ?_
   refine wN hK ?_; clear hK
   refine WC.seq fun K hK => ?_
   refine uS rfl fun K hK => ?_
   refine jm rfl rfl ?_
   refine jn rfl rfl rfl ?_
   refine jf rfl rfl (by omega) ?_
   refine jm rfl rfl ?_
   refine qm rfl rfl ?_
   refine qn rfl rfl rfl ?_
   refine qa 1 rfl rfl rfl rfl ?_
   refine ql rfl rfl rfl (rd_pt (.tail _ (.head _)) rfl) ?_
   refine qW rfl (WL1.give rfl (g_indexAddr (sz := 1) rfl (.mk rfl rfl) (.mk rfl rfl) rfl rfl (show _ = ((0 : Nat) : Int) from rfl) (by omega) (fun _ _ => sl_some hs (by omega))) ?_)
   refine ql rfl rfl rfl (rd_sl hs g0) ?_
   refine qn rfl rfl rfl ?_
   refine qf rfl rfl (by omega) ?_
   refine jm rfl rfl ?_
   refine wN hK ?_; clear hK
   refine uF rfl rfl ?_
   refine WC.skip ?_
   (refine hK _ _ ?_; clear hK)
   refine WC.seq fun K hK => ?_
   refine uS rfl fun K hK => ?_
   refine jm rfl rfl ?_
   refine wN hK ?_; clear hK
   refine WC.block ?_
   refine WC.loopF (fun j : Nat => [(8, iv j), (7, .slice A1 k c1), (6, iv i), (5, cellPtr (some ⟨b5, 0, none⟩) 0), (1, cellPtr (some ⟨b1, 0, none⟩) 0)]) (fun _ => [pt b5 CTT (mcl (prAll ((ils rs).take i))), pt b1 DT [iv v, .slice A rs.length c]]) (fun j => j ≤ k) (fun j => k - j) 0 (by repeat (first | exact trivial | refine ⟨rfl, ?_⟩)) (Imp.pick (by repeat constructor) (Imp.pick (by repeat constructor) (Imp.nil _))) (by omega) ?_
   intro j U2 hj
   by_cases hlt2 : j < k
   · have hx := hrv j hlt2
     have hg := ldv_get (ld := row) (k := j) (by omega)
     by_cases hj0 : j = 0
     · subst hj0
       refine WC.seq fun K hK => ?_
       refine uS rfl fun K hK => ?_
       iterate 2 refine jm rfl rfl ?_
       refine jn rfl rfl rfl ?_
       refine jt rfl rfl (by omega) ?_
       refine wN hK ?_; clear hK
       refine uT rfl rfl ?_
       refine WC.skip ?_
       (refine hK _ _ ?_; clear hK)
       refine WC.seq fun K hK => ?_
       refine WC.block ?_
       refine WC.seq fun K hK => ?_
       refine WC.quiet rfl (by kernel_rfl) (by decide +kernel) ?_
       iterate 2 refine ym rfl rfl ?_
       refine WQ.want rfl (WQ1.give rfl (g_indexAddr (sz := 1) rfl (.mk rfl rfl) (.mk rfl rfl) rfl rfl (show _ = ((0 : Nat) : Int) from rfl) (by omega) (fun _ _ => sl_some s1 (by omega))) ?_)
       refine yl rfl rfl rfl (rd_sl s1 hg) ?_
       refine yf rfl rfl (by omega) ?_
       refine ym rfl rfl ?_
       iterate 2 refine Zm rfl rfl ?_
       refine ZW rfl (WQ1.give rfl (g_indexAddr (sz := 1) rfl (.mk rfl rfl) (.mk rfl rfl) rfl rfl (show _ = ((0 : Nat) : Int) from rfl) (by omega) (fun _ _ => sl_some s1 (by omega))) ?_)
       refine Zl rfl rfl rfl (rd_sl s1 hg) ?_
       refine Za 0 rfl rfl rfl rfl ?_
       refine Zl rfl rfl rfl (rd_pt (.tail _ (.head _)) rfl) ?_
       refine Zf rfl rfl (by omega) ?_
       iterate 2 refine ym rfl rfl ?_
       refine Zm rfl rfl ?_
       refine Zf rfl rfl (by omega) ?_
       refine Zm rfl rfl ?_
       iterate 10 refine uz rfl rfl ?_
       refine Zm rfl rfl ?_
       refine ym rfl rfl ?_
       refine WQ.nil ?_
       (refine hK _ _ ?_; clear hK)
       refine uF rfl rfl ?_
       refine WC.skip ?_
       (refine hK _ _ ?_; clear hK)
       refine WC.region rfl ?_
       refine jm rfl rfl ?_
       refine ji rfl rfl (by omega) ?_
       refine jm rfl rfl ?_
       refine WL.nil ?_
       exact ⟨0 + 1, (by repeat (first | exact trivial | refine ⟨rfl, ?_⟩)), Imp.pick (by repeat constructor) (Imp.pick (by repeat constructor) (Imp.nil _)), by omega, by omega⟩
     · obtain ⟨z, rfl⟩ : ∃ z, j = z + 1 := ⟨j - 1, by omega⟩
       have hg2 := ldv_get (ld := row) (k := z) (by omega)
       have hsub : IntKind.i64.wrap (((z + 1 : Nat) : Int) - 1) = (z : Int) := by rw [IntWalk.i64_in _ (by omega)]; omega
       have hy2 := hri z hlt2
       generalize nth row (z + 1) = x1 at *
       generalize nth row z = x2 at *
       refine WC.seq fun K hK => ?_
       refine uS rfl fun K hK => ?_
       iterate 2 refine jm rfl rfl ?_
       refine jn rfl rfl rfl ?_
       refine jt rfl rfl (by omega) ?_
       refine wN hK ?_; clear hK
       refine uT rfl rfl ?_
       refine WC.skip ?_
       (refine hK _ _ ?_; clear hK)
       refine WC.seq fun K hK => ?_
       refine WC.block ?_
       refine WC.seq fun K hK => ?_
       refine WC.quiet rfl (by kernel_rfl) (by decide +kernel) ?_
       iterate 2 refine ym rfl rfl ?_
       refine WQ.want rfl (WQ1.give rfl (g_indexAddr (sz := 1) rfl (.mk rfl rfl) (.mk rfl rfl) rfl rfl rfl (by omega) (fun _ _ => sl_some s1 (by omega))) ?_)
       refine yl rfl rfl rfl (rd_sl s1 hg) ?_
       refine yf rfl rfl (by omega) ?_
       refine ym rfl rfl ?_
       iterate 2 refine Zm rfl rfl ?_
       refine ZW rfl (WQ1.give rfl (g_indexAddr (sz := 1) rfl (.mk rfl rfl) (.mk rfl rfl) rfl rfl rfl (by omega) (fun _ _ => sl_some s1 (by omega))) ?_)
       refine Zl rfl rfl rfl (rd_sl s1 hg) ?_
       refine Za 0 rfl rfl rfl rfl ?_
       refine Zl rfl rfl rfl (rd_pt (.tail _ (.head _)) rfl) ?_
       refine Zf rfl rfl (by omega) ?_
       iterate 2 refine ym rfl rfl ?_
       refine Zm rfl rfl ?_
       refine Zt rfl rfl (by omega) ?_
       iterate 3 refine Zm rfl rfl ?_
       refine ZW rfl (WQ1.give rfl (g_indexAddr (sz := 1) rfl (.mk rfl rfl) (.mk rfl rfl) rfl rfl rfl (by omega) (fun _ _ => sl_some s1 (by omega))) ?_)
       refine Zl rfl rfl rfl (rd_sl s1 hg) ?_
       iterate 2 refine Zm rfl rfl ?_
       refine ZW rfl (WQ1.give rfl (g_sub rfl (.mk rfl rfl) (.mk rfl rfl) hsub) ?_)
       refine ZW rfl (WQ1.give rfl (g_indexAddr (sz := 1) rfl (.mk rfl rfl) (.mk rfl rfl) rfl rfl rfl (by omega) (fun _ _ => sl_some s1 (by omega))) ?_)
       refine Zl rfl rfl rfl (rd_sl s1 hg2) ?_
       refine Zf rfl rfl (by omega) ?_
       refine Zm rfl rfl ?_
       refine ym rfl rfl ?_
       refine WQ.nil ?_
       (refine hK _ _ ?_; clear hK)
       refine uF rfl rfl ?_
       refine WC.skip ?_
       (refine hK _ _ ?_; clear hK)
       refine WC.region rfl ?_
       refine jm rfl rfl ?_
       refine ji rfl rfl (by omega) ?_
       refine jm rfl rfl ?_
       refine WL.nil ?_
       exact ⟨z + 1 + 1, (by repeat (first | exact trivial | refine ⟨rfl, ?_⟩)), Imp.pick (by repeat constructor) (Imp.pick (by repeat constructor) (Imp.nil _)), by omega, by omega⟩
   obtain rfl : j = k := by omega
   refine WC.seq fun K hK => ?_
   refine uS rfl fun K hK => ?_
   iterate 2 refine jm rfl rfl ?_
   refine jn rfl rfl rfl ?_
   refine jf rfl rfl (by omega) ?_
   refine wN hK ?_; clear hK
   refine uF rfl rfl ?_
   refine WC.exit ?_
   (clear hK; refine hK _ _ ?_; clear hK)
   refine uS rfl fun K hK => ?_
   refine jm rfl rfl ?_
   refine wN hK ?_; clear hK
   refine WC.block ?_
   refine WC.loopF (fun x : Nat => [(9, iv x), (7, .slice A1 j c1), (6, iv i), (5, cellPtr (some ⟨b5, 0, none⟩) 0), (1, cellPtr (some ⟨b1, 0, none⟩) 0)]) (fun x => [pt b5 CTT (mcl (prAll ((ils rs).take i) ++ prR (row.take x) row)), pt b1 DT [iv v, .slice A rs.length c]]) (fun x => x ≤ j) (fun x => j - x) 0 (by repeat (first | exact trivial | refine ⟨rfl, ?_⟩)) (by rw [show prR (row.take 0) row = [] from rfl, List.append_nil]; exact Imp.pick (by repeat constructor) (Imp.pick (by repeat constructor) (Imp.nil _))) (by omega) ?_
   intro x U3 hx
   by_cases hlx : x < j
   · have hax := hrv x hlx
     have hg := ldv_get (ld := row) (k := x) (by omega)
     refine WC.seq fun K hK => ?_
     refine uS rfl fun K hK => ?_
     iterate 2 refine jm rfl rfl ?_
     refine jn rfl rfl rfl ?_
     refine jt rfl rfl (by omega) ?_
     refine wN hK ?_; clear hK
     refine uT rfl rfl ?_
     refine WC.skip ?_
     (refine hK _ _ ?_; clear hK)
     refine WC.seq fun K hK => ?_
     refine WC.block ?_
     refine uS rfl fun K hK => ?_
     refine jm rfl rfl ?_
     refine wN hK ?_; clear hK
     refine WC.block ?_
     refine WC.loopF (fun q : Nat => [(10, iv q), (9, iv x), (7, .slice A1 j c1), (6, iv i), (5, cellPtr (some ⟨b5, 0, none⟩) 0), (1, cellPtr (some ⟨b1, 0, none⟩) 0)]) (fun q => [pt b5 CTT (mcl (prAll ((ils rs).take i) ++ prR (row.take x) row ++ (row.take q).map fun b => (nth row x, b))), pt b1 DT [iv v, .slice A rs.length c]]) (fun q => q ≤ j) (fun q => j - q) 0 (by repeat (first | exact trivial | refine ⟨rfl, ?_⟩)) (by rw [List.take_zero, List.map_nil, List.append_nil]; exact Imp.pick (by repeat constructor) (Imp.pick (by repeat constructor) (Imp.nil _))) (by omega) ?_
     intro q U4 hq
     by_cases hlq : q < j
     · have hbx := hrv q hlq
       have hg2 := ldv_get (ld := row) (k := q) (by omega)
       obtain ⟨P, hP⟩ : ∃ P, P = prAll ((ils rs).take i) ++ prR (row.take x) row ++ (row.take q).map fun b => (nth row x, b) := ⟨_, rfl⟩
       have hP2 : prAll ((ils rs).take i) ++ prR (row.take x) row ++ (row.take (q + 1)).map (fun b => (nth row x, b)) = P ++ [(nth row x, nth row q)] := by
         rw [hP, take_snoc (by omega), List.map_append, ← List.append_assoc]; rfl
       have hcb : cnS P (nth row x) (nth row q) ≤ 100000000 := by
         rw [hP]
         exact cnS_bnd hbnd (by rw [List.length_take]; omega) (by rw [List.length_take]; omega) (by omega) _ (by rw [List.length_take]; omega)
       rw [← hP]
       clear hP
       have hml := mcl_len P
       have hix : ∀ a b : Nat, 0 + (0 + a * 60 + b * 1) = a * 60 + b := fun a b => by omega
       have hmg := mcl_get P (a := nth row x) (b := nth row q) (by omega) (by omega)
       have hms := mcl_set P (a := nth row x) (b := nth row q) (by omega) (by omega)
       rw [← hix] at hmg hms
       generalize cnS P (nth row x) (nth row q) = sq at hcb hmg hms
       generalize nth row x = a at *
       generalize nth row q = b at *
       refine WC.seq fun K hK => ?_
       refine uS rfl fun K hK => ?_
       iterate 2 refine jm rfl rfl ?_
       refine jn rfl rfl rfl ?_
       refine jt rfl rfl (by omega) ?_
       refine wN hK ?_; clear hK
       refine uT rfl rfl ?_
       refine WC.skip ?_
       (refine hK _ _ ?_; clear hK)
       refine WC.seq fun K hK => ?_
       refine WC.block ?_
       refine WC.untilL [14] rfl (by kernel_rfl) ?_
       refine uP 0 rfl (by decide +kernel) (.inr (iS (by repeat constructor))) rfl rfl ?_
       refine uP 1 rfl (by decide +kernel) (.inr (iS (by repeat constructor))) rfl rfl ?_
       refine uG 2 rfl (by decide +kernel) (.inr (iS (by repeat constructor))) rfl ⟨rfl, g_indexAddr (sz := 1) rfl (.mk rfl rfl) (.mk rfl rfl) rfl rfl rfl (by omega) (fun _ _ => sl_some s1 (by omega))⟩ ?_
       refine uB 3 rfl (by decide +kernel) (iS (by repeat constructor)) rfl (Gl rfl rfl (rd_sl s1 hg)) ?_
       refine uP 4 rfl (by decide +kernel) (.inr (iS (by repeat constructor))) rfl rfl ?_
       refine uP 5 rfl (by decide +kernel) (.inr (iS (by repeat constructor))) rfl rfl ?_
       refine uG 6 rfl (by decide +kernel) (.inr (iS (by repeat constructor))) rfl ⟨rfl, g_indexAddr (sz := 1) rfl (.mk rfl rfl) (.mk rfl rfl) rfl rfl rfl (by omega) (fun _ _ => sl_some s1 (by omega))⟩ ?_
       refine uB 7 rfl (by decide +kernel) (iS (by repeat constructor)) rfl (Gl rfl rfl (rd_sl s1 hg2)) ?_
       refine uG 8 rfl (by decide +kernel) (.inr (iS (by repeat constructor))) rfl ⟨rfl, g_indexAddrA (sz := 60) rfl (.mk rfl rfl) (.mk rfl rfl) rfl rfl rfl (by omega) (fun _ _ => rfl)⟩ ?_
       refine uG 9 rfl (by decide +kernel) (.inr (iS (by repeat constructor))) rfl ⟨rfl, g_indexAddrA (sz := 1) rfl (.mk rfl rfl) (.mk rfl rfl) rfl rfl rfl (by omega) (fun _ _ => rfl)⟩ ?_
       refine uB 10 rfl (by decide +kernel) (iS (by repeat constructor)) rfl (Gl rfl rfl (rd_pt (by repeat constructor) hmg)) ?_
       refine uG 11 rfl (by decide +kernel) (.inr (iS (by repeat constructor))) rfl (Gi rfl (by omega)) ?_
       refine uG 12 rfl (by decide +kernel) (.inr (iS (by repeat constructor))) rfl ⟨rfl, g_indexAddrA (sz := 60) rfl (.mk rfl rfl) (.mk rfl rfl) rfl rfl rfl (by omega) (fun _ _ => rfl)⟩ ?_
       refine uG 13 rfl (by decide +kernel) (.inr (iS (by repeat constructor))) rfl ⟨rfl, g_indexAddrA (sz := 1) rfl (.mk rfl rfl) (.mk rfl rfl) rfl rfl rfl (by omega) (fun _ _ => rfl)⟩ ?_
       refine WB.one 14 (by decide +kernel) rfl rfl ?_
       refine WL1.store1 rfl rfl (.mk rfl rfl) (.mk (v := .int _ _) rfl rfl) rfl rfl (by first | omega | (simp; done) | (simp; omega)) (.head) ?_
       refine WL.nil ?_
       refine ⟨.inl (by decide +kernel), ?_⟩
       refine WB.done (by decide +kernel) ?_
       (refine hK _ _ ?_; clear hK)
       refine WC.region rfl ?_
       refine jm rfl rfl ?_
       refine ji rfl rfl (by omega) ?_
       refine jm rfl rfl ?_
       refine WL.nil ?_
       refine ⟨q + 1, (by repeat (first | exact trivial | refine ⟨rfl, ?_⟩)), ?_, by omega, by omega⟩
       rw [hP2, ← hms]
       exact Imp.pick (by repeat constructor) (Imp.pick (by repeat constructor) (Imp.nil _))
     · obtain rfl : q = j := by omega
       refine WC.seq fun K hK => ?_
       refine uS rfl fun K hK => ?_
       iterate 2 refine jm rfl rfl ?_
       refine jn rfl rfl rfl ?_
       refine jf rfl rfl (by omega) ?_
       refine wN hK ?_; clear hK
       refine uF rfl rfl ?_
       refine WC.exit ?_
       (clear hK; refine hK _ _ ?_; clear hK)
       refine WC.region rfl ?_
       refine jm rfl rfl ?_
       refine ji rfl rfl (by omega) ?_
       refine jm rfl rfl ?_
       refine WL.nil ?_
       refine ⟨x + 1, (by repeat (first | exact trivial | refine ⟨rfl, ?_⟩)), ?_, by omega, by omega⟩
       rw [take_snoc (l := row) (k := x) (by omega), show prR (row.take x ++ [nth row x]) row = prR (row.take x) row ++ row.map (fun b => (nth row x, b)) from by unfold prR; rw [List.flatMap_append]; simp, ← List.append_assoc, List.take_of_length_le (Nat.le_of_eq hrl)]
       exact Imp.pick (by repeat constructor) (Imp.pick (by repeat constructor) (Imp.nil _))
   · obtain rfl : x = j := by omega
     refine WC.seq fun K hK => ?_
     refine uS rfl fun K hK => ?_
     iterate 2 refine jm rfl rfl ?_
     refine jn rfl rfl rfl ?_
     refine jf rfl rfl (by omega) ?_
     refine wN hK ?_; clear hK
     refine uF rfl rfl ?_
     refine WC.exit ?_
     (clear hK; refine hK _ _ ?_; clear hK)
     refine WC.region rfl ?_
     refine jm rfl rfl ?_
     refine ji rfl rfl (by omega) ?_
     refine jm rfl rfl ?_
     refine WL.nil ?_
     refine ⟨i + 1, (by repeat (first | exact trivial | refine ⟨rfl, ?_⟩)), ?_, by omega, by omega⟩
     rw [hsnA, List.take_of_length_le (Nat.le_of_eq hrl)]
     exact Imp.pick (by repeat constructor) (Imp.pick (by repeat constructor) (Imp.nil _))
 obtain rfl : i = rs.length := by omega
 rw [List.take_of_length_le (by omega)]
 have hix : ∀ a b : Nat, 0 + (0 + a * 60 + b * 1) = a * 60 + b := fun a b => by omega
 have hg0 := mcl_get (prAll (ils rs)) (a := 0) (b := 0) (by omega) (by omega)
 have hg1 := mcl_get (prAll (ils rs)) (a := 0) (b := 1) (by omega) (by omega)
 rw [cnS_all, hB.at_ 0 (by omega) 0 (by omega), if_pos rfl] at hg0
 rw [cnS_all, hB.at_ 0 (by omega) 1 (by omega), if_neg (by omega)] at hg1
 have hpos := hB.pos
 have hml := mcl_len (prAll (ils rs))
 refine WC.seq fun K hK => ?_
 refine uS rfl fun K hK => ?_
 refine jm rfl rfl ?_
 refine ja 1 rfl rfl rfl rfl ?_
 refine jl rfl rfl rfl (rd_pt (.tail _ (.head _)) rfl) ?_
 refine jn rfl rfl rfl ?_
 refine jf rfl rfl (by omega) ?_
 refine wN hK ?_; clear hK
 refine uF rfl rfl ?_
 refine WC.exit ?_
 (clear hK; refine hK _ _ ?_; clear hK)
 refine WC.seq fun K hK => ?_
 refine uS rfl fun K hK => ?_
 refine jm rfl rfl ?_
 refine wN hK ?_; clear hK
 refine WC.block ?_
 refine WC.loopF (fun a : Nat => [(11, iv a), (5, cellPtr (some ⟨b5, 0, none⟩) 0), (1, cellPtr (some ⟨b1, 0, none⟩) 0)]) (fun _ => [pt b5 CTT (mcl (prAll (ils rs))), pt b1 DT [iv v, .slice A rs.length c]]) (fun a => a ≤ v) (fun a => v - a) 0 (by repeat (first | exact trivial | refine ⟨rfl, ?_⟩)) (Imp.pick (by repeat constructor) (Imp.pick (by repeat constructor) (Imp.nil _))) (by omega) ?_
 intro a U4 ha
 by_cases hla : a < v
 · refine WC.seq fun K hK => ?_
   refine uS rfl fun K hK => ?_
   refine jm rfl rfl ?_
   refine ja 0 rfl rfl rfl rfl ?_
   refine jl rfl rfl rfl (rd_pt (.tail _ (.head _)) rfl) ?_
   refine jt rfl rfl (by omega) ?_
   refine wN hK ?_; clear hK
   refine uT rfl rfl ?_
   refine WC.skip ?_
   (refine hK _ _ ?_; clear hK)
   refine WC.seq fun K hK => ?_
   refine WC.block ?_
   refine uS rfl fun K hK => ?_
   refine jm rfl rfl ?_
   refine wN hK ?_; clear hK
   refine WC.block ?_
   refine WC.loopF (fun b : Nat => [(12, iv b), (11, iv a), (5, cellPtr (some ⟨b5, 0, none⟩) 0), (1, cellPtr (some ⟨b1, 0, none⟩) 0)]) (fun _ => [pt b5 CTT (mcl (prAll (ils rs))), pt b1 DT [iv v, .slice A rs.length c]]) (fun b => b ≤ v) (fun b => v - b) 0 (by repeat (first | exact trivial | refine ⟨rfl, ?_⟩)) (Imp.pick (by repeat constructor) (Imp.pick (by repeat constructor) (Imp.nil _))) (by omega) ?_
   intro b U5 hb
   by_cases hlb : b < v
   · have hgab := mcl_get (prAll (ils rs)) (a := a) (b := b) (by omega) (by omega)
     rw [cnS_all, hB.at_ a hla b hlb, ← hix] at hgab
     by_cases e : a = b
     · rw [if_pos e] at hgab
       subst e
       refine WC.seq fun K hK => ?_
       refine uS rfl fun K hK => ?_
       refine jm rfl rfl ?_
       refine ja 0 rfl rfl rfl rfl ?_
       refine jl rfl rfl rfl (rd_pt (.tail _ (.head _)) rfl) ?_
       refine jt rfl rfl (by omega) ?_
       refine wN hK ?_; clear hK
       refine uT rfl rfl ?_
       refine WC.skip ?_
       (refine hK _ _ ?_; clear hK)
       refine WC.seq fun K hK => ?_
       refine WC.block ?_
       refine WC.seq fun K hK => ?_
       refine WC.quiet rfl (by kernel_rfl) (by decide +kernel) ?_
       iterate 2 refine ym rfl rfl ?_
       refine yt rfl rfl (by omega) ?_
       refine ym rfl rfl ?_
       iterate 2 refine Zm rfl rfl ?_
       refine ZW rfl (WQ1.give rfl (g_indexAddrA (sz := 60) rfl (.mk rfl rfl) (.mk rfl rfl) rfl rfl rfl (by omega) (fun _ _ => rfl)) ?_)
       refine ZW rfl (WQ1.give rfl (g_indexAddrA (sz := 1) rfl (.mk rfl rfl) (.mk rfl rfl) rfl rfl rfl (by omega) (fun _ _ => rfl)) ?_)
       refine Zl rfl rfl rfl (rd_pt (by repeat constructor) hgab) ?_
       refine ZW rfl (WQ1.give rfl (g_indexAddrA (sz := 60) rfl (.mk rfl rfl) (.mk rfl rfl) rfl rfl (show _ = ((0 : Nat) : Int) from rfl) (by omega) (fun _ _ => rfl)) ?_)
       refine ZW rfl (WQ1.give rfl (g_indexAddrA (sz := 1) rfl (.mk rfl rfl) (.mk rfl rfl) rfl rfl (show _ = ((0 : Nat) : Int) from rfl) (by omega) (fun _ _ => rfl)) ?_)
       refine Zl rfl rfl rfl (rd_pt (by repeat constructor) hg0) ?_
       refine Zf rfl rfl (by omega) ?_
       iterate 2 refine ym rfl rfl ?_
       iterate 2 refine Zm rfl rfl ?_
       refine Zf rfl rfl (by omega) ?_
       refine Zm rfl rfl ?_
       iterate 9 refine uz rfl rfl ?_
       refine Zm rfl rfl ?_
       refine ym rfl rfl ?_
       refine WQ.nil ?_
       (refine hK _ _ ?_; clear hK)
       refine uF rfl rfl ?_
       refine WC.skip ?_
       (refine hK _ _ ?_; clear hK)
       refine WC.region rfl ?_
       refine jm rfl rfl ?_
       refine ji rfl rfl (by omega) ?_
       refine jm rfl rfl ?_
       refine WL.nil ?_
       exact ⟨a + 1, (by repeat (first | exact trivial | refine ⟨rfl, ?_⟩)), Imp.pick (by repeat constructor) (Imp.pick (by repeat constructor) (Imp.nil _)), by omega, by omega⟩
     · rw [if_neg e] at hgab
       refine WC.seq fun K hK => ?_
       refine uS rfl fun K hK => ?_
       refine jm rfl rfl ?_
       refine ja 0 rfl rfl rfl rfl ?_
       refine jl rfl rfl rfl (rd_pt (.tail _ (.head _)) rfl) ?_
       refine jt rfl rfl (by omega) ?_
       refine wN hK ?_; clear hK
       refine uT rfl rfl ?_
       refine WC.skip ?_
       (refine hK _ _ ?_; clear hK)
       refine WC.seq fun K hK => ?_
       refine WC.block ?_
       refine WC.seq fun K hK => ?_
       refine WC.quiet rfl (by kernel_rfl) (by decide +kernel) ?_
       iterate 2 refine ym rfl rfl ?_
       refine yf rfl rfl (by omega) ?_
       refine ym rfl rfl ?_
       iterate 9 refine uz rfl rfl ?_
       iterate 2 refine ym rfl rfl ?_
       iterate 2 refine Zm rfl rfl ?_
       refine Zt rfl rfl (by omega) ?_
       iterate 3 refine Zm rfl rfl ?_
       refine ZW rfl (WQ1.give rfl (g_indexAddrA (sz := 60) rfl (.mk rfl rfl) (.mk rfl rfl) rfl rfl rfl (by omega) (fun _ _ => rfl)) ?_)
       refine ZW rfl (WQ1.give rfl (g_indexAddrA (sz := 1) rfl (.mk rfl rfl) (.mk rfl rfl) rfl rfl rfl (by omega) (fun _ _ => rfl)) ?_)
       refine Zl rfl rfl rfl (rd_pt (by repeat constructor) hgab) ?_
       refine ZW rfl (WQ1.give rfl (g_indexAddrA (sz := 60) rfl (.mk rfl rfl) (.mk rfl rfl) rfl rfl (show _ = ((0 : Nat) : Int) from rfl) (by omega) (fun _ _ => rfl)) ?_)
       refine ZW rfl (WQ1.give rfl (g_indexAddrA (sz := 1) rfl (.mk rfl rfl) (.mk rfl rfl) rfl rfl (show _ = ((1 : Nat) : Int) from rfl) (by omega) (fun _ _ => rfl)) ?_)
       refine Zl rfl rfl rfl (rd_pt (by repeat constructor) hg1) ?_
       refine Zf rfl rfl (by omega) ?_
       refine Zm rfl rfl ?_
       refine ym rfl rfl ?_
       refine WQ.nil ?_
       (refine hK _ _ ?_; clear hK)
       refine uF rfl rfl ?_
       refine WC.skip ?_
       (refine hK _ _ ?_; clear hK)
       refine WC.region rfl ?_
       refine jm rfl rfl ?_
       refine ji rfl rfl (by omega) ?_
       refine jm rfl rfl ?_
       refine WL.nil ?_
       exact ⟨b + 1, (by repeat (first | exact trivial | refine ⟨rfl, ?_⟩)), Imp.pick (by repeat constructor) (Imp.pick (by repeat constructor) (Imp.nil _)), by omega, by omega⟩
   · obtain rfl : b = v := by omega
     refine WC.seq fun K hK => ?_
     refine uS rfl fun K hK => ?_
     refine jm rfl rfl ?_
     refine ja 0 rfl rfl rfl rfl ?_
     refine jl rfl rfl rfl (rd_pt (.tail _ (.head _)) rfl) ?_
     refine jf rfl rfl (by omega) ?_
     refine wN hK ?_; clear hK
     refine uF rfl rfl ?_
     refine WC.exit ?_
     (clear hK; refine hK _ _ ?_; clear hK)
     refine WC.region rfl ?_
     refine jm rfl rfl ?_
     refine ji rfl rfl (by omega) ?_
     refine jm rfl rfl ?_
     refine WL.nil ?_
     exact ⟨a + 1, (by repeat (first | exact trivial | refine ⟨rfl, ?_⟩)), Imp.pick (by repeat constructor) (Imp.pick (by repeat constructor) (Imp.nil _)), by omega, by omega⟩
 · obtain rfl : a = v := by omega
   refine WC.seq fun K hK => ?_
   refine uS rfl fun K hK => ?_
   refine jm rfl rfl ?_
   refine ja 0 rfl rfl rfl rfl ?_
   refine jl rfl rfl rfl (rd_pt (.tail _ (.head _)) rfl) ?_
   refine jf rfl rfl (by omega) ?_
   refine wN hK ?_; clear hK
   refine uF rfl rfl ?_
   refine WC.exit ?_
   (clear hK; refine hK _ _ ?_; clear hK)
   refine WC.seq fun K hK => ?_
   refine WC.quiet rfl (by kernel_rfl) (by decide +kernel) ?_
   refine WQ.want rfl (WQ1.give rfl (g_indexAddrA (sz := 60) rfl (.mk rfl rfl) (.mk rfl rfl) rfl rfl (show _ = ((0 : Nat) : Int) from rfl) (by omega) (fun _ _ => rfl)) ?_)
   refine WQ.want rfl (WQ1.give rfl (g_indexAddrA (sz := 1) rfl (.mk rfl rfl) (.mk rfl rfl) rfl rfl (show _ = ((0 : Nat) : Int) from rfl) (by omega) (fun _ _ => rfl)) ?_)
   refine yl rfl rfl rfl (rd_pt (by repeat constructor) hg0) ?_
   refine WQ.want rfl (WQ1.give rfl (g_indexAddrA (sz := 60) rfl (.mk rfl rfl) (.mk rfl rfl) rfl rfl (show _ = ((0 : Nat) : Int) from rfl) (by omega) (fun _ _ => rfl)) ?_)
   refine WQ.want rfl (WQ1.give rfl (g_indexAddrA (sz := 1) rfl (.mk rfl rfl) (.mk rfl rfl) rfl rfl (show _ = ((1 : Nat) : Int) from rfl) (by omega) (fun _ _ => rfl)) ?_)
   refine yl rfl rfl rfl (rd_pt (by repeat constructor) hg1) ?_
   refine WQ.want rfl (WQ1.give rfl (g_indexAddrA (sz := 60) rfl (.mk rfl rfl) (.mk rfl rfl) rfl rfl (show _ = ((0 : Nat) : Int) from rfl) (by omega) (fun _ _ => rfl)) ?_)
   refine WQ.want rfl (WQ1.give rfl (g_indexAddrA (sz := 1) rfl (.mk rfl rfl) (.mk rfl rfl) rfl rfl (show _ = ((1 : Nat) : Int) from rfl) (by omega) (fun _ _ => rfl)) ?_)
   refine yl rfl rfl rfl (rd_pt (by repeat constructor) hg1) ?_
   refine yt rfl rfl (by omega) ?_
   iterate 3 refine ym rfl rfl ?_
   refine WQ.nil ?_
   (refine hK _ _ ?_; clear hK)
   refine WC.ret ?_
   exact fun w' hw' => ⟨rfl, hw'.1⟩
set_option maxHeartbeats 8000000 in
theorem rvalid_d (w : World) (hy : Lay v k r lam (ils rs) t s) (hm : IMat w (.slice A rs.length c) rs) :
   Calls Tryz.prog 19 #[layV v A c rs t s] w fun e w' => e = .returned (.bool true) ∧ Below w.heap.size w w' := by
 have hs := hm.1
 have hck := fun w' hb => rcheck_d w' hy.d hy.b (hm.below (w' := w') hb)
 obtain ⟨A0, c0, e0, hk, h1⟩ := row0 hy.d
 have g0 := irowv_get (rs := rs) (k := 0) (by omega)
 rw [e0] at g0
 unfold IRow.v at g0
 rw [hk] at g0
 have hk4 := hy.k4
 have hk16 := hy.k16
 have ht1 := hy.t1
 have ht := hy.t256
 have hs1 := hy.s1
 have hgrp := hy.grp'
 have hslt := hy.slt
 rw [show (ils rs).length = rs.length from List.length_map _] at hslt
 have hcap := hy.cap
 have q1 : IntKind.i64.wrap ((t : Int) * (rs.length : Int)) = ((t * rs.length : Nat) : Int) := by
   rw [← Int.natCast_mul]
   generalize t * rs.length = z at hgrp ⊢
   exact IntWalk.i64_in _ (by omega)
 have q2 : IntKind.i64.wrap ((k : Int) - 3) = ((k - 3 : Nat) : Int) := by rw [IntWalk.i64_in _ (by omega)]; omega
 have q3 : IntKind.i64.wrap (((t * rs.length : Nat) : Int) * ((k - 3 : Nat) : Int)) = ((t * rs.length * (k - 3) : Nat) : Int) := by
   rw [← Int.natCast_mul]
   generalize t * rs.length * (k - 3) = z at hslt ⊢
   exact IntWalk.i64_in _ (by omega)
 have q4 : IntKind.i64.wrap ((t : Int) * (r : Int)) = ((t * r : Nat) : Int) := by
   rw [← Int.natCast_mul]
   generalize t * r = z at hcap ⊢
   exact IntWalk.i64_in _ (by omega)
 generalize t * rs.length * (k - 3) = sl at *
 generalize t * rs.length = tn at *
 generalize t * r = tr at *
 have gD : ∀ j u, [iv v, .slice A rs.length c][j]? = some u → [iv v, .slice A rs.length c, iv t, iv s][0 + (0 + 0 + j)]? = some u := fun j u h => pre_get (es := [iv t, iv s]) (by omega) h
 refine calls_wc (args := [layV v A c rs t s]) [2] [] Tryz.func19 rfl Tryz.ntmps19 rfl rfl rfl rfl (H.refl _) ?_
 refine uS rfl fun K hK => ?_
 refine WL.want rfl (WL1.box rfl rfl (.mk (v := .agg _) rfl rfl) rfl (fun b1 => ?_))
 refine jm rfl rfl ?_
 refine wN hK ?_; clear hK
 refine uS rfl fun K hK => ?_
 refine ja 0 rfl rfl rfl rfl ?_
 refine wG rfl rfl (g_loadA rfl (.mk rfl rfl) rfl rfl (rdr_pt (cs := [iv v, .slice A rs.length c]) (by repeat constructor) gD)) ?_
 refine WL.want rfl (WL1.callP rfl rfl rfl (.cons (.mk (v := .agg _) rfl rfl) .nil) (fun w hw => hck w hw.1) ?_)
 iterate 7 refine jm rfl rfl ?_
 refine wN hK ?_; clear hK
 refine WC.seq fun K hK => ?_
 refine uS rfl fun K hK => ?_
 iterate 3 refine jm rfl rfl ?_
 refine qa 2 rfl rfl rfl rfl ?_
 refine ql rfl rfl rfl (rd_pt (.head _) rfl) ?_
 refine qf rfl rfl (by omega) ?_
 iterate 2 refine jm rfl rfl ?_
 refine qa 2 rfl rfl rfl rfl ?_
 refine ql rfl rfl rfl (rd_pt (.head _) rfl) ?_
 refine qf rfl rfl (by omega) ?_
 iterate 2 refine jm rfl rfl ?_
 refine qa 3 rfl rfl rfl rfl ?_
 refine ql rfl rfl rfl (rd_pt (.head _) rfl) ?_
 refine qf rfl rfl (by omega) ?_
 iterate 2 refine jm rfl rfl ?_
 refine qa 3 rfl rfl rfl rfl ?_
 refine ql rfl rfl rfl (rd_pt (.head _) rfl) ?_
 refine qf rfl rfl (by omega) ?_
 refine jm rfl rfl ?_
 refine wN hK ?_; clear hK
 refine uF rfl rfl ?_
 refine WC.skip ?_
 (refine hK _ _ ?_; clear hK)
 refine uS rfl fun K hK => ?_
 refine ja 0 rfl rfl rfl rfl ?_
 refine ja 1 rfl rfl rfl rfl ?_
 refine jl rfl rfl rfl (rd_pt (.head _) rfl) ?_
 refine wG rfl rfl (g_indexAddr (sz := 1) rfl (.mk rfl rfl) (.mk rfl rfl) rfl rfl (show _ = ((0 : Nat) : Int) from rfl) (by omega) (fun _ _ => sl_some hs (by omega))) ?_
 refine jl rfl rfl rfl (rd_sl hs g0) ?_
 refine jn rfl rfl rfl ?_
 refine jm rfl rfl ?_
 refine wN hK ?_; clear hK
 refine uS rfl fun K hK => ?_
 refine ja 2 rfl rfl rfl rfl ?_
 refine jl rfl rfl rfl (rd_pt (.head _) rfl) ?_
 refine ja 0 rfl rfl rfl rfl ?_
 refine ja 1 rfl rfl rfl rfl ?_
 refine jl rfl rfl rfl (rd_pt (.head _) rfl) ?_
 refine jn rfl rfl rfl ?_
 refine wG rfl rfl (g_mul rfl (.mk rfl rfl) (.mk rfl rfl) q1) ?_
 refine jm rfl rfl ?_
 refine wN hK ?_; clear hK
 refine uS rfl fun K hK => ?_
 refine jm rfl rfl ?_
 refine jt rfl rfl (by omega) ?_
 refine jm rfl rfl ?_
 refine qm rfl rfl ?_
 refine qt rfl rfl (by omega) ?_
 iterate 2 refine jm rfl rfl ?_
 refine qm rfl rfl ?_
 refine qt rfl rfl (by omega) ?_
 iterate 2 refine jm rfl rfl ?_
 iterate 2 refine qm rfl rfl ?_
 refine qW rfl (WL1.give rfl (g_sub rfl (.mk rfl rfl) (.mk rfl rfl) q2) ?_)
 refine qW rfl (WL1.give rfl (g_mul rfl (.mk rfl rfl) (.mk rfl rfl) q3) ?_)
 refine qt rfl rfl (by omega) ?_
 iterate 2 refine jm rfl rfl ?_
 refine qa 2 rfl rfl rfl rfl ?_
 refine ql rfl rfl rfl (rd_pt (.head _) rfl) ?_
 refine qm rfl rfl ?_
 refine qW rfl (WL1.give rfl (g_mul rfl (.mk rfl rfl) (.mk rfl rfl) q4) ?_)
 refine qa 3 rfl rfl rfl rfl ?_
 refine ql rfl rfl rfl (rd_pt (.head _) rfl) ?_
 refine qi rfl rfl (by omega) ?_
 refine qt rfl rfl (by omega) ?_
 iterate 2 refine jm rfl rfl ?_
 refine wN hK ?_; clear hK
 refine WC.ret ?_
 exact fun w' hw' => ⟨rfl, hw'.1⟩
end Go.Proofs.YtdcijljfgcjelaaGreat
