/- Texts joined: Grp18, Grp12, Grp14, Grp19, Dec10, Grp13, Grp20, Grp15, Grp21, Grp22, Grp23, Grp7, Grp8, Grp9, Grp10, Grp11, Grp24, Grp25, Grp26, Grp27, Grp28, Grp29, OpenB. The parts say what each of them proves. No condition. -/
import Derived.Test.YtdcijljfgcjelaaGreatJe5
import Derived.Maps.Views
import Derived.Maps.RangeWalk
namespace Go.Proofs.YtdcijljfgcjelaaGreat
set_option maxRecDepth 20000
open Go.RowKit
def lastC (l : List Chg) (z : Int) : Nat → Option Blk
  | 0 => none
  | i + 1 => if (nth l i).s = z then some (nth l i).b else lastC l z i
def mD (l : List Chg) : Nat → DataW Value
  | 0 => .map []
  | i + 1 => (mD l i).put (.int .i64 (nth l i).s) (.held (kv (nth l i).b))
theorem mD_map (l : List Chg) : ∀ i, Maps.IsMap (mD l i)
  | 0 => ⟨[], rfl⟩
  | i + 1 => (mD_map l i).put _ _
theorem mD_at (l : List Chg) (z : Int) : ∀ i, (mD l i).atKey (.int .i64 z) (.held (kv 0)) = .held (kv ((lastC l z i).getD 0))
  | 0 => rfl
  | i + 1 => by
    unfold mD lastC
    by_cases h : (nth l i).s = z
    · rw [if_pos h, h, Maps.atKey_put_same (mD_map l i) (by simp [WideAt.IsKeyLit])]; rfl
    · rw [if_neg h, Maps.atKey_put_other (fun e => h (by injection e with _ e; exact e.symm)), mD_at l z i]
theorem mD_has (l : List Chg) (z : Int) : ∀ i, Maps.has (mD l i) (.int .i64 z) = (lastC l z i).isSome
  | 0 => rfl
  | i + 1 => by
    unfold mD lastC
    by_cases h : (nth l i).s = z
    · rw [if_pos h, h, Maps.has_put_same (mD_map l i) (by simp [WideAt.IsKeyLit])]; rfl
    · rw [if_neg h, Maps.has_put_other (fun e => h (by injection e with _ e; exact e.symm)), mD_has l z i]
end Go.Proofs.YtdcijljfgcjelaaGreat
namespace Go.Proofs.YtdcijljfgcjelaaGreat
set_option maxRecDepth 20000
open Go.RowKit
attribute [local irreducible] Calls
set_option maxHeartbeats 4000000 in
theorem proper_e (v : Value) (l : List Chg) (m : Int) (w : World) (hm0 : 0 ≤ m ∧ m ≤ 1000) (hv : Sl w 9 v l.length (cvs l)) :
    Calls Tryz.prog 34 #[iv m, v] w fun e w' => e = .returned (.bool (okC m l)) ∧ Below w.heap.size w w' := by
  obtain ⟨A, c, rfl, hc, hm, hs⟩ := hv.open_
  unfold maxLen at hm
  have hsub : IntKind.i64.wrap (m - 3) = m - 3 := IntWalk.i64_in _ (by omega)
  refine calls_wc (args := [iv m, .slice A l.length c]) [4] [] Tryz.func34 rfl Tryz.ntmps34 rfl rfl rfl rfl (H.refl _) ?_
  refine WC.seq fun K hK => ?_
  refine WC.region rfl ?_
  refine wAB rfl rfl rfl rfl rfl ?_
  refine WL.nil (hK _ _ ?_); clear hK
  refine WC.seq fun K hK => ?_
  refine WC.seq fun K hK => ?_
  refine WC.region rfl ?_
  refine wAI rfl rfl rfl rfl rfl ?_
  refine WL.nil (hK _ _ ?_); clear hK
  refine WC.block ?_
  refine WC.loopF (fun k : Nat => [(5, iv k), (0, iv m), (1, .slice A l.length c)]) (fun _ => []) (fun k => k ≤ l.length ∧ ∀ j, j < k → badC m (nth l j) = false) (fun k => l.length - k) 0 (by repeat (first | exact trivial | refine ⟨rfl, ?_⟩)) (Imp.nil _) ⟨by omega, fun j hj => absurd hj (Nat.not_lt_zero j)⟩ ?_
  rintro k U ⟨hk, hq⟩
  by_cases hlt : k < l.length
  · have hgs : (cvs l)[k * 9 + 0]? = some (iv (nth l k).s) := chg_row (l := l) (k := k) hlt 0 _ rfl
    obtain ⟨z, hz⟩ : ∃ z, z = (nth l k).s := ⟨_, rfl⟩
    have hbz : badC m (nth l k) = decide (z < 0 ∨ m - 3 ≤ z) := by rw [hz]; rfl
    rw [← hz] at hgs
    clear hz
    by_cases q1 : z < 0
    · have hb : badC m (nth l k) = true := by rw [hbz]; exact decide_eq_true (.inl q1)
      refine WC.seq fun K hK => ?_
      refine WC.seq fun K hK => ?_
      refine WC.region rfl ?_
      refine wMI rfl rfl rfl rfl rfl ?_
      refine wMS rfl rfl rfl rfl rfl ?_
      refine wG rfl rfl (g_len rfl (.mk rfl rfl) rfl) ?_
      refine wG rfl rfl (g_lt rfl (.mk rfl rfl) (.mk rfl rfl) (decide_eq_true (by omega))) ?_
      refine WL.nil (hK _ _ ?_); clear hK
      refine WC.cond_true (.mk rfl rfl) ?_
      refine WC.skip ?_
      (refine hK _ _ ?_; clear hK)
      refine WC.seq fun K hK => ?_
      refine WC.block ?_
      refine WC.seq fun K hK => ?_
      refine WC.region rfl ?_
      refine wMS rfl rfl rfl rfl rfl ?_
      refine wMI rfl rfl rfl rfl rfl ?_
      refine wG rfl rfl (g_indexAddr (sz := 9) rfl (.mk rfl rfl) (.mk rfl rfl) rfl rfl rfl (by omega) (fun _ _ => sl_some hs (by omega))) ?_
      refine wG rfl rfl (g_fieldAddr (off := 0) rfl (.mk rfl rfl) rfl (fun _ _ => sl_some hs (by omega))) ?_
      refine wG rfl rfl (g_load rfl (.mk rfl rfl) rfl (rd_sl hs hgs)) ?_
      refine wG rfl rfl (g_lt rfl (.mk rfl rfl) (.mk rfl rfl) (decide_eq_true (by omega))) ?_
      refine wMB rfl rfl rfl rfl rfl ?_
      refine WL.skipG rfl rfl rfl rfl rfl rfl ?_
      refine WL.skipG rfl rfl rfl rfl rfl rfl ?_
      refine WL.skipG rfl rfl rfl rfl rfl rfl ?_
      refine WL.skipG rfl rfl rfl rfl rfl rfl ?_
      refine WL.skipG rfl rfl rfl rfl rfl rfl ?_
      refine WL.skipG rfl rfl rfl rfl rfl rfl ?_
      refine WL.skipG rfl rfl rfl rfl rfl rfl ?_
      refine WL.skipG rfl rfl rfl rfl rfl rfl ?_
      refine wG rfl rfl (g_pickT rfl (.mk rfl rfl) (.mk (v := .bool _) rfl rfl)) ?_
      refine WL.nil (hK _ _ ?_); clear hK
      refine WC.cond_true (.mk rfl rfl) ?_
      refine WC.seq fun K hK => ?_
      refine WC.region rfl ?_
      refine wAB rfl rfl rfl rfl rfl ?_
      refine WL.nil (hK _ _ ?_); clear hK
      refine WC.ret ?_
      exact fun w' hw' => ⟨by unfold okC; rw [gfnd_eq (p := fun k => badC m (nth l k)) hlt hb hq]; rfl, hw'.1⟩
    · by_cases q2 : m - 3 ≤ z
      · have hb : badC m (nth l k) = true := by rw [hbz]; exact decide_eq_true (.inr q2)
        refine WC.seq fun K hK => ?_
        refine WC.seq fun K hK => ?_
        refine WC.region rfl ?_
        refine wMI rfl rfl rfl rfl rfl ?_
        refine wMS rfl rfl rfl rfl rfl ?_
        refine wG rfl rfl (g_len rfl (.mk rfl rfl) rfl) ?_
        refine wG rfl rfl (g_lt rfl (.mk rfl rfl) (.mk rfl rfl) (decide_eq_true (by omega))) ?_
        refine WL.nil (hK _ _ ?_); clear hK
        refine WC.cond_true (.mk rfl rfl) ?_
        refine WC.skip ?_
        (refine hK _ _ ?_; clear hK)
        refine WC.seq fun K hK => ?_
        refine WC.block ?_
        refine WC.seq fun K hK => ?_
        refine WC.region rfl ?_
        refine wMS rfl rfl rfl rfl rfl ?_
        refine wMI rfl rfl rfl rfl rfl ?_
        refine wG rfl rfl (g_indexAddr (sz := 9) rfl (.mk rfl rfl) (.mk rfl rfl) rfl rfl rfl (by omega) (fun _ _ => sl_some hs (by omega))) ?_
        refine wG rfl rfl (g_fieldAddr (off := 0) rfl (.mk rfl rfl) rfl (fun _ _ => sl_some hs (by omega))) ?_
        refine wG rfl rfl (g_load rfl (.mk rfl rfl) rfl (rd_sl hs hgs)) ?_
        refine wG rfl rfl (g_lt rfl (.mk rfl rfl) (.mk rfl rfl) (decide_eq_false (by omega))) ?_
        refine wMB rfl rfl rfl rfl rfl ?_
        refine WL.wantG rfl rfl rfl rfl (WL1.give rfl (g_move rfl (.mk (v := .slice _ _ _) rfl rfl)) ?_)
        refine WL.wantG rfl rfl rfl rfl (WL1.give rfl (g_move rfl (.mk (v := .int _ _) rfl rfl)) ?_)
        refine WL.wantG rfl rfl rfl rfl (WL1.give rfl (g_indexAddr (sz := 9) rfl (.mk rfl rfl) (.mk rfl rfl) rfl rfl rfl (by omega) (fun _ _ => sl_some hs (by omega))) ?_)
        refine WL.wantG rfl rfl rfl rfl (WL1.give rfl (g_fieldAddr (off := 0) rfl (.mk rfl rfl) rfl (fun _ _ => sl_some hs (by omega))) ?_)
        refine WL.wantG rfl rfl rfl rfl (WL1.give rfl (g_load rfl (.mk rfl rfl) rfl (rd_sl hs hgs)) ?_)
        refine WL.wantG rfl rfl rfl rfl (WL1.give rfl (g_move rfl (.mk (v := .int _ _) rfl rfl)) ?_)
        refine WL.wantG rfl rfl rfl rfl (WL1.give rfl (g_sub rfl (.mk rfl rfl) (.mk rfl rfl) hsub) ?_)
        refine WL.wantG rfl rfl rfl rfl (WL1.give rfl (g_ge rfl (.mk rfl rfl) (.mk rfl rfl) (decide_eq_true (by omega))) ?_)
        refine wG rfl rfl (g_pickF rfl (.mk rfl rfl) (.mk (v := .bool _) rfl rfl)) ?_
        refine WL.nil (hK _ _ ?_); clear hK
        refine WC.cond_true (.mk rfl rfl) ?_
        refine WC.seq fun K hK => ?_
        refine WC.region rfl ?_
        refine wAB rfl rfl rfl rfl rfl ?_
        refine WL.nil (hK _ _ ?_); clear hK
        refine WC.ret ?_
        exact fun w' hw' => ⟨by unfold okC; rw [gfnd_eq (p := fun k => badC m (nth l k)) hlt hb hq]; rfl, hw'.1⟩
      · have hb : badC m (nth l k) = false := by rw [hbz]; exact decide_eq_false (by omega)
        refine WC.seq fun K hK => ?_
        refine WC.seq fun K hK => ?_
        refine WC.region rfl ?_
        refine wMI rfl rfl rfl rfl rfl ?_
        refine wMS rfl rfl rfl rfl rfl ?_
        refine wG rfl rfl (g_len rfl (.mk rfl rfl) rfl) ?_
        refine wG rfl rfl (g_lt rfl (.mk rfl rfl) (.mk rfl rfl) (decide_eq_true (by omega))) ?_
        refine WL.nil (hK _ _ ?_); clear hK
        refine WC.cond_true (.mk rfl rfl) ?_
        refine WC.skip ?_
        (refine hK _ _ ?_; clear hK)
        refine WC.seq fun K hK => ?_
        refine WC.block ?_
        refine WC.seq fun K hK => ?_
        refine WC.region rfl ?_
        refine wMS rfl rfl rfl rfl rfl ?_
        refine wMI rfl rfl rfl rfl rfl ?_
        refine wG rfl rfl (g_indexAddr (sz := 9) rfl (.mk rfl rfl) (.mk rfl rfl) rfl rfl rfl (by omega) (fun _ _ => sl_some hs (by omega))) ?_
        refine wG rfl rfl (g_fieldAddr (off := 0) rfl (.mk rfl rfl) rfl (fun _ _ => sl_some hs (by omega))) ?_
        refine wG rfl rfl (g_load rfl (.mk rfl rfl) rfl (rd_sl hs hgs)) ?_
        refine wG rfl rfl (g_lt rfl (.mk rfl rfl) (.mk rfl rfl) (decide_eq_false (by omega))) ?_
        refine wMB rfl rfl rfl rfl rfl ?_
        refine WL.wantG rfl rfl rfl rfl (WL1.give rfl (g_move rfl (.mk (v := .slice _ _ _) rfl rfl)) ?_)
        refine WL.wantG rfl rfl rfl rfl (WL1.give rfl (g_move rfl (.mk (v := .int _ _) rfl rfl)) ?_)
        refine WL.wantG rfl rfl rfl rfl (WL1.give rfl (g_indexAddr (sz := 9) rfl (.mk rfl rfl) (.mk rfl rfl) rfl rfl rfl (by omega) (fun _ _ => sl_some hs (by omega))) ?_)
        refine WL.wantG rfl rfl rfl rfl (WL1.give rfl (g_fieldAddr (off := 0) rfl (.mk rfl rfl) rfl (fun _ _ => sl_some hs (by omega))) ?_)
        refine WL.wantG rfl rfl rfl rfl (WL1.give rfl (g_load rfl (.mk rfl rfl) rfl (rd_sl hs hgs)) ?_)
        refine WL.wantG rfl rfl rfl rfl (WL1.give rfl (g_move rfl (.mk (v := .int _ _) rfl rfl)) ?_)
        refine WL.wantG rfl rfl rfl rfl (WL1.give rfl (g_sub rfl (.mk rfl rfl) (.mk rfl rfl) hsub) ?_)
        refine WL.wantG rfl rfl rfl rfl (WL1.give rfl (g_ge rfl (.mk rfl rfl) (.mk rfl rfl) (decide_eq_false (by omega))) ?_)
        refine wG rfl rfl (g_pickF rfl (.mk rfl rfl) (.mk (v := .bool _) rfl rfl)) ?_
        refine WL.nil (hK _ _ ?_); clear hK
        refine WC.cond_false (.mk rfl rfl) ?_
        refine WC.skip ?_
        (refine hK _ _ ?_; clear hK)
        refine WC.region rfl ?_
        refine wMI rfl rfl rfl rfl rfl ?_
        refine wG rfl rfl (g_add rfl (.mk rfl rfl) (.mk rfl rfl) (IntWalk.i64_in _ (by omega))) ?_
        refine wAI rfl rfl rfl rfl rfl ?_
        refine WL.nil ?_
        refine ⟨k + 1, (by repeat (first | exact trivial | refine ⟨rfl, ?_⟩)), .refl _, ⟨by omega, fun j hj => ?_⟩, by omega⟩
        by_cases e : j = k
        · rw [e]; exact hb
        · exact hq j (by omega)
  · obtain rfl : k = l.length := by omega
    refine WC.seq fun K hK => ?_
    refine WC.seq fun K hK => ?_
    refine WC.region rfl ?_
    refine wMI rfl rfl rfl rfl rfl ?_
    refine wMS rfl rfl rfl rfl rfl ?_
    refine wG rfl rfl (g_len rfl (.mk rfl rfl) rfl) ?_
    refine wG rfl rfl (g_lt rfl (.mk rfl rfl) (.mk rfl rfl) (decide_eq_false (by omega))) ?_
    refine WL.nil (hK _ _ ?_); clear hK
    refine WC.cond_false (.mk rfl rfl) ?_
    refine WC.exit ?_
    (clear hK; refine hK _ _ ?_; clear hK)
    refine WC.seq fun K hK => ?_
    refine WC.region rfl ?_
    refine wAB rfl rfl rfl rfl rfl ?_
    refine WL.nil (hK _ _ ?_); clear hK
    refine WC.ret ?_
    exact fun w' hw' => ⟨by unfold okC; rw [gfnd_all hq]; rfl, hw'.1⟩
set_option maxHeartbeats 1000000 in
theorem rencode_n (v : Value) (ds : List Blk) (w : World) (hv : Sl w 8 v ds.length (kvs ds)) (h1 : 1 ≤ ds.length) (h2 : ds.length ≤ 13) : Calls Tryz.prog 6 #[v] w fun e w' => ∃ v' M, e = .returned v' ∧ H w M w' ∧
    ∃ b, v' = .tuple #[.slice (some ⟨b, 0, none⟩) 3 3, iv 0] ∧ M = [vec (some ⟨b, 0, none⟩) 3 3 41 8 (kvs (enc ds))] := by
  obtain ⟨A, c, rfl, hc, hm, hs⟩ := hv.open_
  refine calls_wc (args := [.slice A ds.length c]) [2, 3] [] Tryz.func6 rfl Tryz.ntmps6 rfl rfl rfl rfl (H.refl _) ?_
  refine WC.seq fun K hK => ?_
  refine WC.region rfl ?_
  refine wAS rfl rfl rfl rfl rfl ?_
  refine wAI rfl rfl rfl rfl rfl ?_
  refine WL.nil (hK _ _ ?_); clear hK
  refine WC.seq fun K hK => ?_
  refine WC.seq fun K hK => ?_
  refine WC.region rfl ?_
  refine wMS rfl rfl rfl rfl rfl ?_
  refine wG rfl rfl (g_len rfl (.mk rfl rfl) rfl) ?_
  refine wG rfl rfl (g_lt rfl (.mk rfl rfl) (.mk rfl rfl) (decide_eq_false (by omega))) ?_
  refine wMB rfl rfl rfl rfl rfl ?_
  refine WL.wantG rfl rfl rfl rfl (WL1.give rfl (g_move rfl (.mk (v := .slice _ _ _) rfl rfl)) ?_)
  refine WL.wantG rfl rfl rfl rfl (WL1.give rfl (g_len rfl (.mk rfl rfl) rfl) ?_)
  refine WL.wantG rfl rfl rfl rfl (WL1.give rfl (g_gt rfl (.mk rfl rfl) (.mk rfl rfl) (decide_eq_false (by omega))) ?_)
  refine wG rfl rfl (g_pickF rfl (.mk rfl rfl) (.mk (v := .bool _) rfl rfl)) ?_
  refine WL.nil (hK _ _ ?_); clear hK
  refine WC.cond_false (.mk rfl rfl) ?_
  refine WC.skip ?_
  (refine hK _ _ ?_; clear hK)
  refine WC.seq fun K hK => ?_
  refine WC.region rfl ?_
  refine wMS rfl rfl rfl rfl rfl ?_
  (refine WL.want rfl (WL1.callN rfl rfl rfl (.cons (.mk (v := .slice _ _ _) rfl rfl) .nil) (fun w hw => parity_n _ ds w (hs.below hw.1) (by omega)) ?_); rintro _ _ ⟨bp, rfl, rfl⟩)
  refine wAS rfl rfl rfl rfl rfl ?_
  refine wAI rfl rfl rfl rfl rfl ?_
  refine WL.nil (hK _ _ ?_); clear hK
  refine WC.ret ?_
  exact fun w' hw' => ⟨_, _, rfl, hw', bp, rfl, rfl⟩
end Go.Proofs.YtdcijljfgcjelaaGreat
namespace Go.Proofs.YtdcijljfgcjelaaGreat
set_option maxRecDepth 20000
open Go.RowKit
attribute [local irreducible] Calls
theorem enc3 (ds : List Blk) : (enc ds).length = 3 := by simp [enc]
theorem group_enc {ds : List Blk} (h1 : 1 ≤ ds.length) (h2 : ds.length ≤ 13) : isGroup (ds ++ enc ds) = true := by
  have h3 := enc3 ds
  have hl : (ds ++ enc ds).length = ds.length + 3 := by rw [List.length_append, h3]
  rw [isGroup_at hl (by omega) (by omega), List.take_left', List.drop_left']
  · exact decide_eq_true rfl
  · rfl
  · rfl
def cstp (ds : List Blk) (x : Chg) : List Blk := ds.set x.s.toNat x.b
def rvD (ds : List Blk) : List Chg → List Blk
  | [] => ds
  | x :: t => cstp (rvD ds t) x
def Dst (l : List Chg) : Prop := l.Pairwise fun x y => x.s.toNat ≠ y.s.toNat
def bG (ds : List Blk) (l : List Chg) (i : Nat) : List Blk := rvD ds (l.drop i) ++ enc (rvD ds (l.drop i))
def sn (m : Nat) (l : List Chg) : Nat → List Bool
  | 0 => List.replicate m false
  | i + 1 => (sn m l i).set (nth l i).s.toNat true
end Go.Proofs.YtdcijljfgcjelaaGreat
namespace Go.Proofs.YtdcijljfgcjelaaGreat
set_option maxRecDepth 20000
open Go.RowKit
theorem lastC_some {l : List Chg} {z : Int} : ∀ {i : Nat}, (lastC l z i).isSome = true → ∃ k, k < i ∧ (nth l k).s = z
  | 0, h => by cases h
  | i + 1, h => by
    unfold lastC at h
    by_cases e : (nth l i).s = z
    · exact ⟨i, by omega, e⟩
    · rw [if_neg e] at h
      obtain ⟨k, hk, hz⟩ := lastC_some h
      exact ⟨k, by omega, hz⟩
theorem lastC_hit {l : List Chg} {z : Int} : ∀ {i k : Nat}, k < i → (nth l k).s = z → (lastC l z i).isSome = true
  | i + 1, k, hk, hz => by
    unfold lastC
    by_cases e : (nth l i).s = z
    · rw [if_pos e]; rfl
    · rw [if_neg e]
      exact lastC_hit (k := k) (Nat.lt_of_le_of_ne (by omega) fun h => e (h ▸ hz)) hz
theorem datP_nth {ds : List Blk} {l : List Chg} (ho : okC (ds.length + 3 : Nat) l = true) {k : Nat} (hk : k < ds.length) : ∀ i, i ≤ l.length → nth (datP ds l i) k = (lastC l k i).getD (nth ds k)
  | 0, _ => rfl
  | i + 1, hi => by
    have h1 := okC_each ho (k := i) (by omega)
    have ih := datP_nth ho hk i (by omega)
    unfold datP lastC
    rw [nth_set_eq (by rw [datP_len]; omega)]
    by_cases e : (nth l i).s = k
    · rw [if_pos e, if_pos (by omega)]; rfl
    · rw [if_neg e, if_neg (by omega), ih]
def tch (l : List Chg) (m : Nat) : List Nat := numL (fun i => (lastC l i l.length).isSome) m
def ints (l : List Nat) : List Int := l.map fun k : Nat => (k : Int)
def lstB (l : List Chg) (k : Nat) : Blk := (lastC l k l.length).getD 0
def resL (l : List Chg) (T : List Nat) (N : Nat) (p : List Blk) : List Chg := T.map (fun k : Nat => (⟨k, lstB l k⟩ : Chg)) ++ (List.range 3).map fun j : Nat => (⟨((N + j : Nat) : Int), nth p j⟩ : Chg)
def dltP (l : List Chg) (O : List Blk) (T : List Nat) : Nat → List Blk
  | 0 => O.drop T.length
  | i + 1 => upd (dltP l O T i) (nth T i) (nth O i + lstB l (nth T i))
def rsP (N : Nat) (O : List Blk) (R : List Nat) : Nat → List Blk
  | 0 => List.replicate N 0
  | i + 1 => (rsP N O R i).set (nth R i) (nth O i)
theorem rsP_len (N : Nat) (O : List Blk) (R : List Nat) : ∀ i, (rsP N O R i).length = N
  | 0 => List.length_replicate
  | i + 1 => by rw [rsP, List.length_set, rsP_len N O R i]
def frB (N : Nat) (R : List Nat) : Nat → List Bool
  | 0 => List.replicate (N + 3) true
  | i + 1 => (frB N R i).set (nth R i) false
theorem frB_len (N : Nat) (R : List Nat) : ∀ i, (frB N R i).length = N + 3
  | 0 => List.length_replicate
  | i + 1 => by rw [frB, List.length_set, frB_len N R i]
def okR (m : Nat) (R : List Int) (i : Nat) : Prop := 0 ≤ nth R i ∧ nth R i < (m : Int) ∧ (i = 0 ∨ nth R (i - 1) < nth R i)
instance (m : Nat) (R : List Int) (i : Nat) : Decidable (okR m R i) := by unfold okR; infer_instance
def nats (R : List Int) : List Nat := R.map Int.toNat
theorem ints_len (R : List Nat) : (ints R).length = R.length := List.length_map ..
theorem ldv_ints (R : List Nat) : ldv R = ivs (ints R) := ldv_ivs R
theorem nth_map' {α β : Type} [Inhabited α] [Inhabited β] (f : α → β) {l : List α} {k : Nat} (h : k < l.length) : nth (l.map f) k = f (nth l k) := by
  rw [nth_eq (by rw [List.length_map]; exact h), nth_eq h, List.getElem_map]
theorem nth_nats {R : List Int} {k : Nat} (h : k < R.length) : nth (nats R) k = (nth R k).toNat := nth_map' _ h
theorem nth_ints {R : List Nat} {k : Nat} (h : k < R.length) : nth (ints R) k = ((nth R k : Nat) : Int) := nth_map' _ h
def frD (N : Nat) (O : List Blk) (R : List Int) : List Blk := (decL (rsP (N + 3) O (nats R) R.length) (frB N (nats R) R.length) N).take N
def cmpP (N : Nat) (R : List Int) (O : List Blk) (l : List Chg) : Option (List Blk) :=
  if R = ints (numL (dP (N + 3) (ints (tch l (N + 3)))) (N + 3)) then some (dltP l O (tch l (N + 3)) (tch l (N + 3)).length)
  else if R = ints (numL (rP (N + 3) (ints (tch l (N + 3)))) (N + 3)) then some (enc (datP (rsP N O (nats R) R.length) l l.length))
  else if R.length = N ∧ ∀ i, i < N → okR (N + 3) R i then some (enc (datP (frD N O R) l l.length)) else none
theorem frD_len (N : Nat) (O : List Blk) (R : List Int) : (frD N O R).length = N := by
  unfold frD decL
  rw [List.length_take, decP_len]; omega
theorem dltP_len (l : List Chg) (O : List Blk) (T : List Nat) (h : O.length = T.length + 3) : ∀ i, (dltP l O T i).length = 3
  | 0 => by unfold dltP; rw [List.length_drop]; omega
  | i + 1 => by unfold dltP upd; simp
/-! ### the touched pieces -/
theorem numL_T' {p : Nat → Bool} {i : Nat} (h : p i = true) : numL p (i + 1) = numL p i ++ [i] := by rw [numL, if_pos h]
theorem numL_F' {p : Nat → Bool} {i : Nat} (h : p i = false) : numL p (i + 1) = numL p i := by rw [numL, if_neg (by rw [h]; exact Bool.false_ne_true)]
theorem numL_none {p : Nat → Bool} (a : Nat) : ∀ d, (∀ i, a ≤ i → p i = false) → numL p (a + d) = numL p a
  | 0, _ => rfl
  | d + 1, h => by rw [← Nat.add_assoc, numL_F' (h _ (by omega)), numL_none a d h]
theorem tch_out {N : Nat} {l : List Chg} (ho : okC (N + 3 : Nat) l = true) {i : Nat} (hi : N ≤ i) : (lastC l i l.length).isSome = false := by
  cases h : (lastC l i l.length).isSome with
  | false => rfl
  | true =>
    obtain ⟨k, hk, hz⟩ := lastC_some h
    have := okC_each ho hk
    omega
theorem tch_data {N : Nat} {l : List Chg} (ho : okC (N + 3 : Nat) l = true) : tch l (N + 3) = numL (fun i => (lastC l i l.length).isSome) N := numL_none N 3 fun i hi => tch_out ho hi
theorem tch_lt {N : Nat} {l : List Chg} (ho : okC (N + 3 : Nat) l = true) {k : Nat} (hk : k < (tch l (N + 3)).length) : nth (tch l (N + 3)) k < N := by
  rw [tch_data ho] at hk ⊢; exact numL_lt _ _ k hk
theorem numL_mem {p : Nat → Bool} {j : Nat} : ∀ n, j ∈ numL p n ↔ j < n ∧ p j = true
  | 0 => by simp [numL]
  | n + 1 => by
    rw [numL]
    by_cases h : p n = true
    · rw [if_pos h, List.mem_append, numL_mem n, List.mem_singleton]
      constructor
      · rintro (⟨h1, h2⟩ | rfl)
        · exact ⟨by omega, h2⟩
        · exact ⟨by omega, h⟩
      · rintro ⟨h1, h2⟩
        by_cases e : j = n
        · exact .inr e
        · exact .inl ⟨by omega, h2⟩
    · rw [if_neg h, numL_mem n]
      constructor
      · rintro ⟨h1, h2⟩; exact ⟨by omega, h2⟩
      · rintro ⟨h1, h2⟩
        exact ⟨Nat.lt_of_le_of_ne (by omega) fun e => h (e ▸ h2), h2⟩
theorem hasB_mem {l : List Int} {x : Int} : hasB l x = true ↔ x ∈ l := by
  unfold hasB
  constructor
  · intro h
    obtain ⟨j, hj⟩ := Option.isSome_iff_exists.1 h
    obtain ⟨h1, h2⟩ := gfnd_some hj
    rw [← of_decide_eq_true h2, nth_eq h1]
    exact List.getElem_mem _
  · intro h
    cases e : gfnd (fun k => decide (nth l k = x)) l.length with
    | some j => rfl
    | none =>
      obtain ⟨k, hk, hx⟩ := List.getElem_of_mem h
      have := of_decide_eq_false (gfnd_none e k hk)
      rw [nth_eq hk] at this
      exact absurd hx this
theorem hasB_ints {T : List Nat} {k : Nat} : hasB (ints T) (k : Int) = decide (k ∈ T) := by
  rw [Bool.eq_iff_iff, hasB_mem, decide_eq_true_iff]
  unfold ints
  rw [List.mem_map]
  constructor
  · rintro ⟨a, h1, h2⟩
    obtain rfl : a = k := Int.ofNat_inj.1 h2
    exact h1
  · exact fun h => ⟨k, h, rfl⟩
theorem tch_mem {l : List Chg} {m k : Nat} : k ∈ tch l m ↔ k < m ∧ (lastC l k l.length).isSome = true := numL_mem m
theorem dP_tch {N : Nat} {l : List Chg} {i : Nat} (hi : i < N) : dP (N + 3) (ints (tch l (N + 3))) i = (lastC l i l.length).isSome := by
  unfold dP
  rw [hasB_ints, decide_eq_false (by omega), Bool.false_or, Bool.eq_iff_iff, decide_eq_true_iff, tch_mem]
  exact ⟨fun h => h.2, fun h => ⟨by omega, h⟩⟩
theorem numL_congr {p q : Nat → Bool} : ∀ n, (∀ i, i < n → p i = q i) → numL p n = numL q n
  | 0, _ => rfl
  | n + 1, h => by rw [numL, numL, numL_congr n fun i hi => h i (by omega), h n (by omega)]
theorem dP_all {N : Nat} {l : List Chg} (ho : okC (N + 3 : Nat) l = true) : numL (dP (N + 3) (ints (tch l (N + 3)))) (N + 3) = tch l (N + 3) ++ [N, N + 1, N + 2] := by
  have h : ∀ j, j < 3 → dP (N + 3) (ints (tch l (N + 3))) (N + j) = true := fun j hj => by unfold dP; rw [decide_eq_true (by omega)]; rfl
  rw [numL_T' (h 2 (by omega)), numL_T' (h 1 (by omega)), numL_T' (h 0 (by omega))]
  have h2 := numL_congr (p := dP (N + 3) (ints (tch l (N + 3)))) (q := fun i : Nat => (lastC l i l.length).isSome) N fun i hi => dP_tch hi
  rw [← tch_data ho] at h2
  have h3 : numL (dP (N + 3) (ints (tch l (N + 3)))) (N + 0) = tch l (N + 3) := h2
  rw [h3]
  simp
/-! ### the data of the map -/
def mxD (l : List Chg) (ds : List Blk) (left : Lit → Bool) : List Blk := (List.range ds.length).map fun k : Nat => if (lastC l k l.length).isSome && !left (.int .i64 k) then lstB l k else nth ds k
theorem mxD_len (l : List Chg) (ds : List Blk) (left : Lit → Bool) : (mxD l ds left).length = ds.length := by simp [mxD]
theorem mxD_start {l : List Chg} {ds : List Blk} : mxD l ds (Maps.has (mD l l.length)) = ds := by
  refine list_ext_nth (mxD_len ..) fun k hk => ?_
  rw [mxD_len] at hk
  unfold mxD
  rw [nth_range _ hk, mD_has]
  cases (lastC l k l.length).isSome <;> rfl
theorem mxD_step {l : List Chg} {ds : List Blk} {left : Lit → Bool} {z : Nat} (hs : (lastC l z l.length).isSome = true) (hz : z < ds.length) : (mxD l ds left).set z (lstB l z) = mxD l ds fun x => left x && !x.sameKey (.int .i64 z) := by
  refine list_ext_nth (by rw [List.length_set, mxD_len, mxD_len]) fun k hk => ?_
  rw [List.length_set, mxD_len] at hk
  rw [nth_set_eq (by rw [mxD_len]; exact hz)]
  unfold mxD
  rw [nth_range _ hk, nth_range _ hk]
  by_cases e : k = z
  · subst e
    rw [if_pos rfl, hs]
    have : (Lit.int .i64 (k : Int)).sameKey (.int .i64 k) = true := decide_eq_true ⟨rfl, rfl⟩
    show lstB l k = if (true && !(left (.int .i64 k) && !(Lit.int .i64 (k : Int)).sameKey (.int .i64 k))) = true then lstB l k else nth ds k
    rw [this]; simp
  · rw [if_neg e]
    have : (Lit.int .i64 (k : Int)).sameKey (.int .i64 z) = false := decide_eq_false fun h => e (by have := h.2; omega)
    show _ = if ((lastC l k l.length).isSome && !(left (.int .i64 k) && !(Lit.int .i64 (k : Int)).sameKey (.int .i64 z))) = true then lstB l k else nth ds k
    rw [this]; simp
theorem mxD_end {l : List Chg} {ds : List Blk} {left : Lit → Bool} (ho : okC (ds.length + 3 : Nat) l = true) (hl : ∀ k, left k = false) : mxD l ds left = datP ds l l.length := by
  refine list_ext_nth (by rw [mxD_len, datP_len]) fun k hk => ?_
  rw [mxD_len] at hk
  rw [datP_nth ho hk l.length (Nat.le_refl _)]
  unfold mxD
  rw [nth_range _ hk, hl]
  unfold lstB
  cases lastC l k l.length <;> rfl
/-! ### the marks -/
theorem frB_later {N : Nat} {R : List Int} {i : Nat} (hR : ∀ j, j < i → okR (N + 3) R j) (hl : i ≤ R.length) : ∀ d, d ≤ i → ∀ z : Nat, z < N + 3 → (d = 0 ∨ nth R (d - 1) < (z : Int)) → nth (frB N (nats R) d) z = true
  | 0, _, z, hz, _ => by unfold frB nth; rw [List.getD_eq_getElem?_getD, List.getElem?_replicate, if_pos hz]; rfl
  | d + 1, hd, z, hz, h => by
    have h1 := hR d (by omega)
    have h2 : nth R d < z := by
      rcases h with h | h
      · omega
      · simpa using h
    unfold frB
    rw [nth_set_eq (by rw [frB_len, nth_nats (by omega)]; have := h1.2.1; omega), nth_nats (by omega), if_neg (by have := h1.1; omega)]
    refine frB_later hR hl d (by omega) z hz ?_
    rcases h1.2.2 with h | h
    · exact .inl h
    · exact .inr (by omega)
theorem cnt_clear {bs : List Bool} {k : Nat} (hk : k < bs.length) (hb : nth bs k = true) : ∀ m, cnt (bs.set k false) m + (if k < m then 1 else 0) = cnt bs m
  | 0 => by simp [cnt]
  | m + 1 => by
    have ih := cnt_clear hk hb m
    unfold cnt
    rw [nth_set_eq hk]
    by_cases e : m = k
    · subst e
      rw [if_pos rfl, hb]
      simp at ih ⊢
      omega
    · rw [if_neg e]
      generalize (if nth bs m = true then 1 else 0) = q
      by_cases h : k < m
      · rw [if_pos h] at ih
        rw [if_pos (show k < m + 1 by omega)]; omega
      · rw [if_neg h] at ih
        rw [if_neg (show ¬ k < m + 1 by omega)]; omega
theorem cnt_true : ∀ (M m : Nat), m ≤ M → cnt (List.replicate M true) m = m
  | _, 0, _ => rfl
  | M, m + 1, h => by
    unfold cnt
    rw [cnt_true M m (by omega), if_pos]
    unfold nth
    rw [List.getD_eq_getElem?_getD, List.getElem?_replicate, if_pos (by omega)]; rfl
theorem frB_cnt {N : Nat} {R : List Int} (hR : ∀ j, j < R.length → okR (N + 3) R j) : ∀ i, i ≤ R.length → cnt (frB N (nats R) i) (N + 3) + i = N + 3
  | 0, _ => by unfold frB; rw [cnt_true _ _ (Nat.le_refl _)]
  | i + 1, hi => by
    have ih := frB_cnt hR i (by omega)
    have h1 := hR i (by omega)
    have hz : nth (nats R) i < N + 3 := by rw [nth_nats (by omega)]; have := h1.2.1; have := h1.1; omega
    have hb : nth (frB N (nats R) i) (nth (nats R) i) = true := by
      refine frB_later (fun j hj => hR j (by omega)) (by omega) i (Nat.le_refl _) _ hz ?_
      rw [nth_nats (by omega)]
      rcases h1.2.2 with h | h
      · exact .inl h
      · exact .inr (by have := h1.1; omega)
    have := cnt_clear (by rw [frB_len]; exact hz) hb (N + 3)
    rw [if_pos hz] at this
    unfold frB
    omega
end Go.Proofs.YtdcijljfgcjelaaGreat
namespace Go.Proofs.YtdcijljfgcjelaaGreat
set_option maxRecDepth 20000
open Go.RowKit
attribute [local irreducible] Calls
end Go.Proofs.YtdcijljfgcjelaaGreat
namespace Go.Proofs.YtdcijljfgcjelaaGreat
set_option maxRecDepth 20000
open Go.RowKit
attribute [local irreducible] Calls
set_option maxHeartbeats 4000000 in
theorem grapply_bad (vp vl : Value) (ps : List Blk) (l : List Chg) (w : World) (hp : Sl w 8 vp ps.length (kvs ps)) (hl : Sl w 9 vl l.length (cvs l)) (h2 : ps.length ≤ 1000) (h : ¬ (isGroup ps = true ∧ okC ps.length l = true)) :
    Calls Tryz.prog 7 #[vp, vl] w fun e w' => e = .returned (.tuple #[.slice none 0 0, .slice none 0 0, iv 1]) ∧ Below w.heap.size w w' := by
  have hck := fun w' hb => rcheck_e vp ps w' (hp.below (w' := w') hb) (by omega)
  have hch := fun w' hb => proper_e vl l ps.length w' (by omega) (hl.below (w' := w') hb)
  have hval := wide_i ps.length
  obtain ⟨A, c, rfl, hcc, hm, hs⟩ := hp.open_
  obtain ⟨B, d, rfl, hcd, hmd, hsb⟩ := hl.open_
  by_cases hw : 4 ≤ (ps.length : Int) ∧ (ps.length : Int) ≤ 16
  · rw [decide_eq_true hw] at hval
    cases hg : isGroup ps with
    | false =>
      rw [hg] at hck
      refine calls_wc (args := [.slice A ps.length c, .slice B l.length d]) [4, 5, 6] [] Tryz.func7 rfl Tryz.ntmps7 rfl rfl rfl rfl (H.refl _) ?_
      refine WC.seq fun K hK => ?_
      refine WC.region rfl ?_
      refine wAS rfl rfl rfl rfl rfl ?_
      refine wAS rfl rfl rfl rfl rfl ?_
      refine wAI rfl rfl rfl rfl rfl ?_
      refine WL.nil (hK _ _ ?_); clear hK
      refine WC.seq fun K hK => ?_
      refine WC.region rfl ?_
      refine wMS rfl rfl rfl rfl rfl ?_
      refine wG rfl rfl (g_len rfl (.mk rfl rfl) rfl) ?_
      refine wAI rfl rfl rfl rfl rfl ?_
      refine WL.nil (hK _ _ ?_); clear hK
      refine WC.seq fun K hK => ?_
      refine WC.seq fun K hK => ?_
      refine WC.region rfl ?_
      refine wMI rfl rfl rfl rfl rfl ?_
      refine WL.want rfl (WL1.callP rfl rfl rfl (.cons (.mk (v := .int _ _) rfl rfl) .nil) (fun w hw => hval w) ?_)
      refine wG rfl rfl (g_notT rfl (.mk rfl rfl)) ?_
      refine wMB rfl rfl rfl rfl rfl ?_
      refine WL.wantG rfl rfl rfl rfl (WL1.give rfl (g_move rfl (.mk (v := .slice _ _ _) rfl rfl)) ?_)
      refine WL.wantG rfl rfl rfl rfl (WL1.callP rfl rfl rfl (.cons (.mk (v := .slice _ _ _) rfl rfl) .nil) (fun w hw => hck w hw.1) ?_)
      refine WL.wantG rfl rfl rfl rfl (WL1.give rfl (g_notF rfl (.mk rfl rfl)) ?_)
      refine wG rfl rfl (g_pickF rfl (.mk rfl rfl) (.mk (v := .bool _) rfl rfl)) ?_
      refine wMB rfl rfl rfl rfl rfl ?_
      refine WL.skipG rfl rfl rfl rfl rfl rfl ?_
      refine WL.skipG rfl rfl rfl rfl rfl rfl ?_
      refine WL.skipG rfl rfl rfl rfl rfl rfl ?_
      refine WL.skipG rfl rfl rfl rfl rfl rfl ?_
      refine wG rfl rfl (g_pickT rfl (.mk rfl rfl) (.mk (v := .bool _) rfl rfl)) ?_
      refine WL.nil (hK _ _ ?_); clear hK
      refine WC.cond_true (.mk rfl rfl) ?_
      refine WC.seq fun K hK => ?_
      refine WC.region rfl ?_
      refine wAS rfl rfl rfl rfl rfl ?_
      refine wAS rfl rfl rfl rfl rfl ?_
      refine wAI rfl rfl rfl rfl rfl ?_
      refine WL.nil (hK _ _ ?_); clear hK
      refine WC.ret ?_
      exact fun w' hw' => ⟨rfl, hw'.1⟩
    | true =>
      have ho : okC ps.length l = false := by
        cases ho : okC ps.length l with
        | false => rfl
        | true => exact absurd ⟨hg, ho⟩ h
      rw [hg] at hck
      rw [ho] at hch
      refine calls_wc (args := [.slice A ps.length c, .slice B l.length d]) [4, 5, 6] [] Tryz.func7 rfl Tryz.ntmps7 rfl rfl rfl rfl (H.refl _) ?_
      refine WC.seq fun K hK => ?_
      refine WC.region rfl ?_
      refine wAS rfl rfl rfl rfl rfl ?_
      refine wAS rfl rfl rfl rfl rfl ?_
      refine wAI rfl rfl rfl rfl rfl ?_
      refine WL.nil (hK _ _ ?_); clear hK
      refine WC.seq fun K hK => ?_
      refine WC.region rfl ?_
      refine wMS rfl rfl rfl rfl rfl ?_
      refine wG rfl rfl (g_len rfl (.mk rfl rfl) rfl) ?_
      refine wAI rfl rfl rfl rfl rfl ?_
      refine WL.nil (hK _ _ ?_); clear hK
      refine WC.seq fun K hK => ?_
      refine WC.seq fun K hK => ?_
      refine WC.region rfl ?_
      refine wMI rfl rfl rfl rfl rfl ?_
      refine WL.want rfl (WL1.callP rfl rfl rfl (.cons (.mk (v := .int _ _) rfl rfl) .nil) (fun w hw => hval w) ?_)
      refine wG rfl rfl (g_notT rfl (.mk rfl rfl)) ?_
      refine wMB rfl rfl rfl rfl rfl ?_
      refine WL.wantG rfl rfl rfl rfl (WL1.give rfl (g_move rfl (.mk (v := .slice _ _ _) rfl rfl)) ?_)
      refine WL.wantG rfl rfl rfl rfl (WL1.callP rfl rfl rfl (.cons (.mk (v := .slice _ _ _) rfl rfl) .nil) (fun w hw => hck w hw.1) ?_)
      refine WL.wantG rfl rfl rfl rfl (WL1.give rfl (g_notT rfl (.mk rfl rfl)) ?_)
      refine wG rfl rfl (g_pickF rfl (.mk rfl rfl) (.mk (v := .bool _) rfl rfl)) ?_
      refine wMB rfl rfl rfl rfl rfl ?_
      refine WL.wantG rfl rfl rfl rfl (WL1.give rfl (g_move rfl (.mk (v := .int _ _) rfl rfl)) ?_)
      refine WL.wantG rfl rfl rfl rfl (WL1.give rfl (g_move rfl (.mk (v := .slice _ _ _) rfl rfl)) ?_)
      refine WL.wantG rfl rfl rfl rfl (WL1.callP rfl rfl rfl (.cons (.mk (v := .int _ _) rfl rfl) (.cons (.mk (v := .slice _ _ _) rfl rfl) .nil)) (fun w hw => hch w hw.1) ?_)
      refine WL.wantG rfl rfl rfl rfl (WL1.give rfl (g_notF rfl (.mk rfl rfl)) ?_)
      refine wG rfl rfl (g_pickF rfl (.mk rfl rfl) (.mk (v := .bool _) rfl rfl)) ?_
      refine WL.nil (hK _ _ ?_); clear hK
      refine WC.cond_true (.mk rfl rfl) ?_
      refine WC.seq fun K hK => ?_
      refine WC.region rfl ?_
      refine wAS rfl rfl rfl rfl rfl ?_
      refine wAS rfl rfl rfl rfl rfl ?_
      refine wAI rfl rfl rfl rfl rfl ?_
      refine WL.nil (hK _ _ ?_); clear hK
      refine WC.ret ?_
      exact fun w' hw' => ⟨rfl, hw'.1⟩
  · rw [decide_eq_false hw] at hval
    refine calls_wc (args := [.slice A ps.length c, .slice B l.length d]) [4, 5, 6] [] Tryz.func7 rfl Tryz.ntmps7 rfl rfl rfl rfl (H.refl _) ?_
    refine WC.seq fun K hK => ?_
    refine WC.region rfl ?_
    refine wAS rfl rfl rfl rfl rfl ?_
    refine wAS rfl rfl rfl rfl rfl ?_
    refine wAI rfl rfl rfl rfl rfl ?_
    refine WL.nil (hK _ _ ?_); clear hK
    refine WC.seq fun K hK => ?_
    refine WC.region rfl ?_
    refine wMS rfl rfl rfl rfl rfl ?_
    refine wG rfl rfl (g_len rfl (.mk rfl rfl) rfl) ?_
    refine wAI rfl rfl rfl rfl rfl ?_
    refine WL.nil (hK _ _ ?_); clear hK
    refine WC.seq fun K hK => ?_
    refine WC.seq fun K hK => ?_
    refine WC.region rfl ?_
    refine wMI rfl rfl rfl rfl rfl ?_
    refine WL.want rfl (WL1.callP rfl rfl rfl (.cons (.mk (v := .int _ _) rfl rfl) .nil) (fun w hw => hval w) ?_)
    refine wG rfl rfl (g_notF rfl (.mk rfl rfl)) ?_
    refine wMB rfl rfl rfl rfl rfl ?_
    refine WL.skipG rfl rfl rfl rfl rfl rfl ?_
    refine WL.skipG rfl rfl rfl rfl rfl rfl ?_
    refine WL.skipG rfl rfl rfl rfl rfl rfl ?_
    refine wG rfl rfl (g_pickT rfl (.mk rfl rfl) (.mk (v := .bool _) rfl rfl)) ?_
    refine wMB rfl rfl rfl rfl rfl ?_
    refine WL.skipG rfl rfl rfl rfl rfl rfl ?_
    refine WL.skipG rfl rfl rfl rfl rfl rfl ?_
    refine WL.skipG rfl rfl rfl rfl rfl rfl ?_
    refine WL.skipG rfl rfl rfl rfl rfl rfl ?_
    refine wG rfl rfl (g_pickT rfl (.mk rfl rfl) (.mk (v := .bool _) rfl rfl)) ?_
    refine WL.nil (hK _ _ ?_); clear hK
    refine WC.cond_true (.mk rfl rfl) ?_
    refine WC.seq fun K hK => ?_
    refine WC.region rfl ?_
    refine wAS rfl rfl rfl rfl rfl ?_
    refine wAS rfl rfl rfl rfl rfl ?_
    refine wAI rfl rfl rfl rfl rfl ?_
    refine WL.nil (hK _ _ ?_); clear hK
    refine WC.ret ?_
    exact fun w' hw' => ⟨rfl, hw'.1⟩
set_option maxHeartbeats 4000000 in
theorem grapply_n (vp vl : Value) (ps : List Blk) (l : List Chg) (n : Nat) (w : World) (hp : Sl w 8 vp ps.length (kvs ps)) (hl : Sl w 9 vl l.length (cvs l)) (hn : ps.length = n + 3) (h1 : 1 ≤ n) (h2 : n ≤ 13) (hll : l.length ≤ 1000000) (hg : isGroup ps = true) (ho : okC ps.length l = true) :
    Calls Tryz.prog 7 #[vp, vl] w fun e w' => ∃ v' M, e = .returned v' ∧ H w M w' ∧ ∃ A c F fc, v' = .tuple #[.slice A ps.length c, .slice F (numL (difP (apL ps l) ps) ps.length).length fc, iv 0] ∧ M = [vec A ps.length c 41 8 (kvs (apL ps l)), vec F (numL (difP (apL ps l) ps) ps.length).length fc 3 1 (ldv (numL (difP (apL ps l) ps) ps.length))] := by
  have hck := fun w' hb => rcheck_e vp ps w' (hp.below (w' := w') hb) (by omega)
  have hch := fun w' hb => proper_e vl l ps.length w' (by omega) (hl.below (w' := w') hb)
  have hval := wide_i ps.length
  rw [hg] at hck
  rw [ho] at hch
  rw [decide_eq_true (by omega)] at hval
  have hoe := fun k (hk : k < l.length) => okC_each ho hk
  obtain ⟨A, c, rfl, hcc, hm, hs⟩ := hp.open_
  obtain ⟨B, d, rfl, hcd, hmd, hsb⟩ := hl.open_
  have hsub : IntKind.i64.wrap ((ps.length : Int) - 3) = (n : Int) := by rw [IntWalk.i64_in _ (by omega)]; omega
  have htl : (ps.take n).length = n := by rw [List.length_take]; omega
  have htk : Sl w 8 (.slice (subA A c 0 8) (n - 0) (c - 0)) (n - 0) (kvs (ps.take n)) := by
    have := Sl.blks (l := 0) (h := n) hs rfl (by omega) (by omega)
    rwa [List.drop_zero, Nat.sub_zero, htl] at this
  have hap : apL ps l = datP (ps.take n) l l.length ++ enc (datP (ps.take n) l l.length) := by unfold apL; rw [show ps.length - 3 = n from by omega]
  have hd0 : [] ++ kvs (ps.take n) = kvs (datP (ps.take n) l 0) := rfl
  have hz : 0 + (n - 0) = n := by omega
  refine calls_wc (args := [.slice A ps.length c, .slice B l.length d]) [4, 5, 6] [] Tryz.func7 rfl Tryz.ntmps7 rfl rfl rfl rfl (H.refl _) ?_
  refine WC.seq fun K hK => ?_
  refine WC.region rfl ?_
  refine wAS rfl rfl rfl rfl rfl ?_
  refine wAS rfl rfl rfl rfl rfl ?_
  refine wAI rfl rfl rfl rfl rfl ?_
  refine WL.nil (hK _ _ ?_); clear hK
  refine WC.seq fun K hK => ?_
  refine WC.region rfl ?_
  refine wMS rfl rfl rfl rfl rfl ?_
  refine wG rfl rfl (g_len rfl (.mk rfl rfl) rfl) ?_
  refine wAI rfl rfl rfl rfl rfl ?_
  refine WL.nil (hK _ _ ?_); clear hK
  refine WC.seq fun K hK => ?_
  refine WC.seq fun K hK => ?_
  refine WC.region rfl ?_
  refine wMI rfl rfl rfl rfl rfl ?_
  refine WL.want rfl (WL1.callP rfl rfl rfl (.cons (.mk (v := .int _ _) rfl rfl) .nil) (fun w hw => hval w) ?_)
  refine wG rfl rfl (g_notT rfl (.mk rfl rfl)) ?_
  refine wMB rfl rfl rfl rfl rfl ?_
  refine WL.wantG rfl rfl rfl rfl (WL1.give rfl (g_move rfl (.mk (v := .slice _ _ _) rfl rfl)) ?_)
  refine WL.wantG rfl rfl rfl rfl (WL1.callP rfl rfl rfl (.cons (.mk (v := .slice _ _ _) rfl rfl) .nil) (fun w hw => hck w hw.1) ?_)
  refine WL.wantG rfl rfl rfl rfl (WL1.give rfl (g_notT rfl (.mk rfl rfl)) ?_)
  refine wG rfl rfl (g_pickF rfl (.mk rfl rfl) (.mk (v := .bool _) rfl rfl)) ?_
  refine wMB rfl rfl rfl rfl rfl ?_
  refine WL.wantG rfl rfl rfl rfl (WL1.give rfl (g_move rfl (.mk (v := .int _ _) rfl rfl)) ?_)
  refine WL.wantG rfl rfl rfl rfl (WL1.give rfl (g_move rfl (.mk (v := .slice _ _ _) rfl rfl)) ?_)
  refine WL.wantG rfl rfl rfl rfl (WL1.callP rfl rfl rfl (.cons (.mk (v := .int _ _) rfl rfl) (.cons (.mk (v := .slice _ _ _) rfl rfl) .nil)) (fun w hw => hch w hw.1) ?_)
  refine WL.wantG rfl rfl rfl rfl (WL1.give rfl (g_notT rfl (.mk rfl rfl)) ?_)
  refine wG rfl rfl (g_pickF rfl (.mk rfl rfl) (.mk (v := .bool _) rfl rfl)) ?_
  refine WL.nil (hK _ _ ?_); clear hK
  refine WC.cond_false (.mk rfl rfl) ?_
  refine WC.skip ?_
  (refine hK _ _ ?_; clear hK)
  refine WC.seq fun K hK => ?_
  refine WC.region rfl ?_
  refine WL.want rfl (WL1.lit (cs := []) elK rfl rfl rfl .nil rfl (by first | (simp [Value.cells]; done) | fail) rfl rfl (fun b31 => ?_))
  refine wMS rfl rfl rfl rfl rfl ?_
  refine wMI rfl rfl rfl rfl rfl ?_
  refine wG rfl rfl (g_sub rfl (.mk rfl rfl) (.mk rfl rfl) hsub) ?_
  refine wG rfl rfl (g_slice (sz := 8) (kl := .i64) (p := 0) rfl (.mk rfl rfl) rfl rfl rfl ⟨(.mk rfl rfl), rfl⟩ (by omega) (by omega)) ?_
  refine WL.want rfl (WL1.append elK rfl rfl (.mk rfl rfl) (.mk rfl rfl) (.head) (fun w hw => Sl.below htk hw.1) (kvs_one _) (by unfold maxLen; omega) (by omega) (fun A36 c36 => ?_))
  refine wAS rfl rfl rfl rfl rfl ?_
  refine WL.nil (hK _ _ ?_); clear hK
  refine WC.seq fun K hK => ?_
  refine WC.seq fun K hK => ?_
  refine WC.region rfl ?_
  refine wAI rfl rfl rfl rfl rfl ?_
  refine WL.nil (hK _ _ ?_); clear hK
  refine WC.block ?_
  rw [hd0, hz]
  refine WC.loopF (fun i : Nat => [(9, iv i), (8, .slice A36 n c36), (0, .slice A ps.length c), (1, .slice B l.length d), (7, iv ps.length)]) (fun i => [vec A36 n c36 41 8 (kvs (datP (ps.take n) l i))]) (fun i => i ≤ l.length) (fun i => l.length - i) 0 (by repeat (first | exact trivial | refine ⟨rfl, ?_⟩)) (Imp.pick (by repeat (first | exact .head | apply Take.tail)) (Imp.nil _)) (by omega) ?_
  intro i U hi
  have hdl := datP_len (ps.take n) l i
  rw [htl] at hdl
  have hkl : (kvs (datP (ps.take n) l i)).length = n * 8 := by rw [kvs_len, hdl]
  by_cases hlt : i < l.length
  · have hgd := chg_row (l := l) (k := i) hlt
    obtain ⟨q1, q2⟩ := hoe i hlt
    have hdn : datP (ps.take n) l (i + 1) = (datP (ps.take n) l i).set (nth l i).s.toNat (nth l i).b := rfl
    obtain ⟨x, hx⟩ : ∃ x, x = nth l i := ⟨_, rfl⟩
    rw [← hx] at hgd q1 q2 hdn
    obtain ⟨z, hz⟩ : ∃ z : Nat, x.s = z := ⟨x.s.toNat, by omega⟩
    have g0 : (cvs l)[i * 9 + 0]? = some (iv z) := by rw [← hz]; exact hgd 0 _ rfl
    have gb : ∀ j u, x.b.cells[j]? = some u → (cvs l)[i * 9 + 1 + j]? = some u := fun j u h => by rw [Nat.add_assoc]; exact hgd (1 + j) u (x.atb j u h)
    have hz2 : x.s.toNat = z := by omega
    rw [hz2] at hdn
    have hsp : ∀ i0 v0, i0 = z * 8 → v0 = x.b.cells → spl (kvs (datP (ps.take n) l i)) i0 v0 = kvs (datP (ps.take n) l (i + 1)) := fun i0 v0 h h' => (kvs_put (by omega) h h').trans (congrArg kvs hdn.symm)
    have hzn : z < n := by omega
    clear hx hdn hck hch hval
    refine WC.seq fun K hK => ?_
    refine WC.seq fun K hK => ?_
    refine WC.region rfl ?_
    refine wMI rfl rfl rfl rfl rfl ?_
    refine wMS rfl rfl rfl rfl rfl ?_
    refine wG rfl rfl (g_len rfl (.mk rfl rfl) rfl) ?_
    refine wG rfl rfl (g_lt rfl (.mk rfl rfl) (.mk rfl rfl) (decide_eq_true (by omega))) ?_
    refine WL.nil (hK _ _ ?_); clear hK
    refine WC.cond_true (.mk rfl rfl) ?_
    refine WC.skip ?_
    (refine hK _ _ ?_; clear hK)
    refine WC.seq fun K hK => ?_
    refine WC.block ?_
    refine WC.until [vec A36 n c36 41 8 (kvs (datP (ps.take n) l i))] [12] rfl (by kernel_rfl) ?_
    refine WB.takeP 0 rfl (by decide +kernel) (by decide +kernel) (by decide +kernel) (by decide +kernel) rfl rfl (.inr (Imp.sub (by first | ((repeat (first | exact List.nil_sublist _ | exact List.Sublist.refl _ | apply List.Sublist.cons_cons | apply List.Sublist.cons)); done) | fail))) (g_move rfl (.mk (v := .slice _ _ _) rfl rfl)) ?_
    refine WB.takeP 1 rfl (by decide +kernel) (by decide +kernel) (by decide +kernel) (by decide +kernel) rfl rfl (.inr (Imp.sub (by first | ((repeat (first | exact List.nil_sublist _ | exact List.Sublist.refl _ | apply List.Sublist.cons_cons | apply List.Sublist.cons)); done) | fail))) (g_move rfl (.mk (v := .slice _ _ _) rfl rfl)) ?_
    refine WB.takeP 2 rfl (by decide +kernel) (by decide +kernel) (by decide +kernel) (by decide +kernel) rfl rfl (.inr (Imp.sub (by first | ((repeat (first | exact List.nil_sublist _ | exact List.Sublist.refl _ | apply List.Sublist.cons_cons | apply List.Sublist.cons)); done) | fail))) (g_move rfl (.mk (v := .int _ _) rfl rfl)) ?_
    refine WB.takeP 3 rfl (by decide +kernel) (by decide +kernel) (by decide +kernel) (by decide +kernel) rfl rfl (.inr (Imp.sub (by first | ((repeat (first | exact List.nil_sublist _ | exact List.Sublist.refl _ | apply List.Sublist.cons_cons | apply List.Sublist.cons)); done) | fail))) (g_indexAddr (sz := 9) rfl (.mk rfl rfl) (.mk rfl rfl) rfl rfl rfl (by omega) (fun _ _ => sl_some hsb (by omega))) ?_
    refine WB.takeP 4 rfl (by decide +kernel) (by decide +kernel) (by decide +kernel) (by decide +kernel) rfl rfl (.inr (Imp.sub (by first | ((repeat (first | exact List.nil_sublist _ | exact List.Sublist.refl _ | apply List.Sublist.cons_cons | apply List.Sublist.cons)); done) | fail))) (g_fieldAddr (off := 0) rfl (.mk rfl rfl) rfl (fun _ _ => sl_some hsb (by omega))) ?_
    refine WB.take 5 rfl (by decide +kernel) (by decide +kernel) (by decide +kernel) (by decide +kernel) rfl rfl (Imp.sub (by first | ((repeat (first | exact List.nil_sublist _ | exact List.Sublist.refl _ | apply List.Sublist.cons_cons | apply List.Sublist.cons)); done) | fail)) (g_load rfl (.mk rfl rfl) rfl (rd_sl hsb g0)) ?_
    refine WB.takeP 6 rfl (by decide +kernel) (by decide +kernel) (by decide +kernel) (by decide +kernel) rfl rfl (.inr (Imp.sub (by first | ((repeat (first | exact List.nil_sublist _ | exact List.Sublist.refl _ | apply List.Sublist.cons_cons | apply List.Sublist.cons)); done) | fail))) (g_move rfl (.mk (v := .slice _ _ _) rfl rfl)) ?_
    refine WB.takeP 7 rfl (by decide +kernel) (by decide +kernel) (by decide +kernel) (by decide +kernel) rfl rfl (.inr (Imp.sub (by first | ((repeat (first | exact List.nil_sublist _ | exact List.Sublist.refl _ | apply List.Sublist.cons_cons | apply List.Sublist.cons)); done) | fail))) (g_move rfl (.mk (v := .int _ _) rfl rfl)) ?_
    refine WB.takeP 8 rfl (by decide +kernel) (by decide +kernel) (by decide +kernel) (by decide +kernel) rfl rfl (.inr (Imp.sub (by first | ((repeat (first | exact List.nil_sublist _ | exact List.Sublist.refl _ | apply List.Sublist.cons_cons | apply List.Sublist.cons)); done) | fail))) (g_indexAddr (sz := 9) rfl (.mk rfl rfl) (.mk rfl rfl) rfl rfl rfl (by omega) (fun _ _ => sl_some hsb (by omega))) ?_
    refine WB.takeP 9 rfl (by decide +kernel) (by decide +kernel) (by decide +kernel) (by decide +kernel) rfl rfl (.inr (Imp.sub (by first | ((repeat (first | exact List.nil_sublist _ | exact List.Sublist.refl _ | apply List.Sublist.cons_cons | apply List.Sublist.cons)); done) | fail))) (g_fieldAddr (off := 1) rfl (.mk rfl rfl) rfl (fun _ _ => sl_some hsb (by omega))) ?_
    refine WB.take 10 rfl (by decide +kernel) (by decide +kernel) (by decide +kernel) (by decide +kernel) rfl rfl (Imp.sub (by first | ((repeat (first | exact List.nil_sublist _ | exact List.Sublist.refl _ | apply List.Sublist.cons_cons | apply List.Sublist.cons)); done) | fail)) (g_loadA rfl (.mk rfl rfl) rfl (sz8 _) (rdr_sl (cs := x.b.cells) hsb (by omega) gb)) ?_
    refine WB.take 11 rfl (by decide +kernel) (by decide +kernel) (by decide +kernel) (by decide +kernel) rfl rfl (Imp.sub (by first | ((repeat (first | exact List.nil_sublist _ | exact List.Sublist.refl _ | apply List.Sublist.cons_cons | apply List.Sublist.cons)); done) | fail)) (g_indexAddr (sz := 8) rfl (.mk rfl rfl) (.mk rfl rfl) rfl rfl rfl (by omega) (fun w hw => vec_some hw (.head _) (by omega))) ?_
    refine WB.one 12 (by decide +kernel) rfl rfl ?_
    refine WL1.storeVA rfl rfl (.mk rfl rfl) (.mk rfl rfl) (sz8 _) (Blk.one _) (by first | decide | omega | exact Nat.le_of_ble_eq_true rfl | (simp; done) | (simp; omega) | (rw [Blk.len]; omega)) (by first | omega | (rw [Blk.len]; omega) | (simp; done) | (simp; omega)) (.head) ?_
    refine WL.nil ?_
    refine ⟨.inl (by decide +kernel), ?_⟩
    refine WB.done (by decide +kernel) ?_
    (refine hK _ _ ?_; clear hK)
    refine WC.region rfl ?_
    refine wMI rfl rfl rfl rfl rfl ?_
    refine wG rfl rfl (g_add rfl (.mk rfl rfl) (.mk rfl rfl) (IntWalk.i64_in _ (by omega))) ?_
    refine wAI rfl rfl rfl rfl rfl ?_
    refine WL.nil ?_
    refine ⟨i + 1, (by repeat (first | exact trivial | refine ⟨rfl, ?_⟩)), ?_, by omega, by omega⟩
    rw [hsp]
    · exact Imp.pick (by repeat (first | exact .head | apply Take.tail)) (Imp.nil _)
    · omega
    · rfl
  · obtain rfl : i = l.length := by omega
    obtain ⟨D, hD⟩ : ∃ D, D = datP (ps.take n) l l.length := ⟨_, rfl⟩
    rw [← hD] at hap hdl ⊢
    obtain ⟨qs, hqs⟩ : ∃ qs, qs = D ++ enc D := ⟨_, rfl⟩
    have hen : ∀ (v : Value) (w' : World), Sl w' 8 v n (kvs D) → Calls Tryz.prog 6 #[v] w' fun e w2 => ∃ v' M, e = .returned v' ∧ H w' M w2 ∧ ∃ b, v' = .tuple #[.slice (some ⟨b, 0, none⟩) 3 3, iv 0] ∧ M = [vec (some ⟨b, 0, none⟩) 3 3 41 8 (kvs (enc D))] := fun v w' h => rencode_n v D w' (by rw [hdl]; exact h) (by omega) (by omega)
    rw [← hqs] at hap
    rw [hap]
    have hql : qs.length = ps.length := by
      have : (enc D).length = 3 := by simp [enc]
      rw [hqs, List.length_append, this, hdl, hn]
    have hkq : kvs D ++ kvs (enc D) = kvs qs := by rw [hqs, kvs_app]
    clear hqs hkl hch hck hval htk
    refine WC.seq fun K hK => ?_
    refine WC.seq fun K hK => ?_
    refine WC.region rfl ?_
    refine wMI rfl rfl rfl rfl rfl ?_
    refine wMS rfl rfl rfl rfl rfl ?_
    refine wG rfl rfl (g_len rfl (.mk rfl rfl) rfl) ?_
    refine wG rfl rfl (g_lt rfl (.mk rfl rfl) (.mk rfl rfl) (decide_eq_false (by omega))) ?_
    refine WL.nil (hK _ _ ?_); clear hK
    refine WC.cond_false (.mk rfl rfl) ?_
    refine WC.exit ?_
    (clear hK; refine hK _ _ ?_; clear hK)
    refine WC.seq fun K hK => ?_
    refine WC.region rfl ?_
    refine wMS rfl rfl rfl rfl rfl ?_
    (refine WL.want rfl (WL1.callN rfl rfl rfl (.cons (.mk (v := .slice _ _ _) rfl rfl) .nil) (fun w hw => hen _ w (Sl.of_vec hw (by repeat (first | exact .head _ | apply List.Mem.tail)))) ?_); rintro _ _ ⟨bq, rfl, rfl⟩)
    refine wG rfl rfl (g_move rfl (.mk (v := .tuple _) rfl rfl)) ?_
    refine wG rfl rfl (g_extract rfl (.mk rfl rfl) rfl) ?_
    refine wG rfl rfl (g_extract rfl (.mk rfl rfl) rfl) ?_
    refine wAS rfl rfl rfl rfl rfl ?_
    refine wAI rfl rfl rfl rfl rfl ?_
    refine WL.nil (hK _ _ ?_); clear hK
    refine WC.seq fun K hK => ?_
    refine WC.region rfl ?_
    refine wMS rfl rfl rfl rfl rfl ?_
    refine wMS rfl rfl rfl rfl rfl ?_
    refine WL.want rfl (WL1.append elK rfl rfl (.mk rfl rfl) (.mk rfl rfl) (.tail (.head)) (fun w hw => Sl.of_vec hw (.head _)) (kvs_one _) (by unfold maxLen; omega) (by omega) (fun A62 c62 => ?_))
    refine wAS rfl rfl rfl rfl rfl ?_
    refine WL.nil (hK _ _ ?_); clear hK
    refine WC.seq fun K hK => ?_
    refine WC.region rfl ?_
    refine wAS rfl rfl rfl rfl rfl ?_
    refine WL.nil (hK _ _ ?_); clear hK
    refine WC.seq fun K hK => ?_
    refine WC.seq fun K hK => ?_
    refine WC.region rfl ?_
    refine wAI rfl rfl rfl rfl rfl ?_
    refine WL.nil (hK _ _ ?_); clear hK
    refine WC.block ?_
    rw [hkq, ← hn]
    refine WC.nilvec 3 1 ?_
    
    refine WC.loopF3 (fun (j : Nat) (F : Option Addr) (fc : Nat) => [(14, iv j), (7, iv ps.length), (12, .slice A62 ps.length c62), (13, .slice F (numL (difP qs ps) j).length fc), (0, .slice A ps.length c)]) (fun j F fc => [vec F (numL (difP qs ps) j).length fc 3 1 (ldv (numL (difP qs ps) j)), vec A62 ps.length c62 41 8 (kvs qs)]) (fun j _ _ => j ≤ ps.length) (fun j _ _ => ps.length - j) 0 none 0 (by repeat (first | exact trivial | refine ⟨rfl, ?_⟩)) (Imp.pick (A := vec none 0 0 3 1 []) (by repeat (first | exact .head | apply Take.tail)) (Imp.pick (by repeat (first | exact .head | apply Take.tail)) (Imp.nil _))) (by omega) ?_
    intro j F fc V hj
    have hle := numL_le (difP qs ps) j
    obtain ⟨g, hgg⟩ : ∃ g, g = numL (difP qs ps) j := ⟨_, rfl⟩
    rw [← hgg] at hle ⊢
    by_cases hlt2 : j < ps.length
    · have ga : ∀ t u, (nth qs j).cells[t]? = some u → (kvs qs)[j * 8 + t]? = some u := fun t u h => flat_row blk8 (by omega) t u h
      have gb : ∀ t u, (nth ps j).cells[t]? = some u → (kvs ps)[j * 8 + t]? = some u := fun t u h => flat_row blk8 (by omega) t u h
      by_cases hne : nth qs j = nth ps j
      · have E := blk_eq hne
        have hst : numL (difP qs ps) (j + 1) = g := by rw [numL, show difP qs ps j = false from decide_eq_false fun h => h hne, ← hgg]; rfl
        refine WC.seq fun K hK => ?_
        refine WC.seq fun K hK => ?_
        refine WC.region rfl ?_
        refine wMI rfl rfl rfl rfl rfl ?_
        refine wMI rfl rfl rfl rfl rfl ?_
        refine wG rfl rfl (g_lt rfl (.mk rfl rfl) (.mk rfl rfl) (decide_eq_true (by omega))) ?_
        refine WL.nil (hK _ _ ?_); clear hK
        refine WC.cond_true (.mk rfl rfl) ?_
        refine WC.skip ?_
        (refine hK _ _ ?_; clear hK)
        refine WC.seq fun K hK => ?_
        refine WC.block ?_
        refine WC.seq fun K hK => ?_
        refine WC.quiet rfl (by kernel_rfl) (by decide +kernel) ?_
        refine WQ.want rfl (WQ1.give rfl (g_move rfl (.mk (v := .slice _ _ _) rfl rfl)) ?_)
        refine WQ.want rfl (WQ1.give rfl (g_move rfl (.mk (v := .int _ _) rfl rfl)) ?_)
        refine WQ.want rfl (WQ1.give rfl (g_indexAddr (sz := 8) rfl (.mk rfl rfl) (.mk rfl rfl) rfl rfl rfl (by omega) (fun w hw => vec_some hw (.tail _ (.head _)) (by omega))) ?_)
        refine WQ.want rfl (WQ1.give rfl (g_loadA rfl (.mk rfl rfl) rfl (sz8 _) (rdr_vec (by repeat (first | exact .head _ | apply List.Mem.tail)) (by omega) ga)) ?_)
        refine WQ.want rfl (WQ1.give rfl (g_move rfl (.mk (v := .slice _ _ _) rfl rfl)) ?_)
        refine WQ.want rfl (WQ1.give rfl (g_move rfl (.mk (v := .int _ _) rfl rfl)) ?_)
        refine WQ.want rfl (WQ1.give rfl (g_indexAddr (sz := 8) rfl (.mk rfl rfl) (.mk rfl rfl) rfl rfl rfl (by omega) (fun _ _ => sl_some hs (by omega))) ?_)
        refine WQ.want rfl (WQ1.give rfl (g_loadA rfl (.mk rfl rfl) rfl (sz8 _) (rdr_sl hs (by omega) gb)) ?_)
        refine WQ.want rfl (WQ1.give rfl (g_ane (by kernel_rfl) rfl (.mk rfl rfl) (.mk rfl rfl) E) ?_)
        refine WQ.nil ?_
        (refine hK _ _ ?_; clear hK)
        refine WC.cond_false (.mk rfl rfl) ?_
        refine WC.skip ?_
        (refine hK _ _ ?_; clear hK)
        refine WC.region rfl ?_
        refine wMI rfl rfl rfl rfl rfl ?_
        refine wG rfl rfl (g_add rfl (.mk rfl rfl) (.mk rfl rfl) (IntWalk.i64_in _ (by omega))) ?_
        refine wAI rfl rfl rfl rfl rfl ?_
        refine WL.nil ?_
        exact ⟨j + 1, F, fc, by rw [hst]; exact (by repeat (first | exact trivial | refine ⟨rfl, ?_⟩)), by rw [hst]; exact Imp.pick (by repeat (first | exact .head | apply Take.tail)) (Imp.pick (by repeat (first | exact .head | apply Take.tail)) (Imp.nil _)), by omega, by omega⟩
      · have E := blk_ne hne
        have hst : numL (difP qs ps) (j + 1) = g ++ [j] := by rw [numL, show difP qs ps j = true from decide_eq_true hne, ← hgg]; rfl
        have hl1 : (g ++ [j]).length = g.length + 1 := by rw [List.length_append]; rfl
        refine WC.seq fun K hK => ?_
        refine WC.seq fun K hK => ?_
        refine WC.region rfl ?_
        refine wMI rfl rfl rfl rfl rfl ?_
        refine wMI rfl rfl rfl rfl rfl ?_
        refine wG rfl rfl (g_lt rfl (.mk rfl rfl) (.mk rfl rfl) (decide_eq_true (by omega))) ?_
        refine WL.nil (hK _ _ ?_); clear hK
        refine WC.cond_true (.mk rfl rfl) ?_
        refine WC.skip ?_
        (refine hK _ _ ?_; clear hK)
        refine WC.seq fun K hK => ?_
        refine WC.block ?_
        refine WC.seq fun K hK => ?_
        refine WC.quiet rfl (by kernel_rfl) (by decide +kernel) ?_
        refine WQ.want rfl (WQ1.give rfl (g_move rfl (.mk (v := .slice _ _ _) rfl rfl)) ?_)
        refine WQ.want rfl (WQ1.give rfl (g_move rfl (.mk (v := .int _ _) rfl rfl)) ?_)
        refine WQ.want rfl (WQ1.give rfl (g_indexAddr (sz := 8) rfl (.mk rfl rfl) (.mk rfl rfl) rfl rfl rfl (by omega) (fun w hw => vec_some hw (.tail _ (.head _)) (by omega))) ?_)
        refine WQ.want rfl (WQ1.give rfl (g_loadA rfl (.mk rfl rfl) rfl (sz8 _) (rdr_vec (by repeat (first | exact .head _ | apply List.Mem.tail)) (by omega) ga)) ?_)
        refine WQ.want rfl (WQ1.give rfl (g_move rfl (.mk (v := .slice _ _ _) rfl rfl)) ?_)
        refine WQ.want rfl (WQ1.give rfl (g_move rfl (.mk (v := .int _ _) rfl rfl)) ?_)
        refine WQ.want rfl (WQ1.give rfl (g_indexAddr (sz := 8) rfl (.mk rfl rfl) (.mk rfl rfl) rfl rfl rfl (by omega) (fun _ _ => sl_some hs (by omega))) ?_)
        refine WQ.want rfl (WQ1.give rfl (g_loadA rfl (.mk rfl rfl) rfl (sz8 _) (rdr_sl hs (by omega) gb)) ?_)
        refine WQ.want rfl (WQ1.give rfl (g_ane (by kernel_rfl) rfl (.mk rfl rfl) (.mk rfl rfl) E) ?_)
        refine WQ.nil ?_
        (refine hK _ _ ?_; clear hK)
        refine WC.cond_true (.mk rfl rfl) ?_
        refine WC.region rfl ?_
        refine wMS rfl rfl rfl rfl rfl ?_
        refine wMI rfl rfl rfl rfl rfl ?_
        refine WL.want rfl (WL1.lit (cs := [_]) elI rfl rfl rfl (.cons (.mk (v := .int _ _) rfl rfl) .nil) rfl (by first | (simp [Value.cells]; done) | fail) rfl rfl (fun b79 => ?_))
        refine WL.want rfl (WL1.append elI rfl rfl (.mk rfl rfl) (.mk rfl rfl) (.tail (.head)) (fun w hw => Sl.of_vec hw (.head _)) (all1 rfl) (by unfold maxLen; omega) (by omega) (fun A80 c80 => ?_))
        refine wAS rfl rfl rfl rfl rfl ?_
        refine WL.nil (hK _ _ ?_); clear hK
        refine WC.region rfl ?_
        refine wMI rfl rfl rfl rfl rfl ?_
        refine wG rfl rfl (g_add rfl (.mk rfl rfl) (.mk rfl rfl) (IntWalk.i64_in _ (by omega))) ?_
        refine wAI rfl rfl rfl rfl rfl ?_
        refine WL.nil ?_
        exact ⟨j + 1, A80, c80, by rw [hst, hl1]; exact (by repeat (first | exact trivial | refine ⟨rfl, ?_⟩)), by rw [hst, hl1, ← ldv_snoc]; exact Imp.pick (by repeat (first | exact .head | apply Take.tail)) (Imp.pick (by repeat (first | exact .head | apply Take.tail)) (Imp.nil _)), by omega, by omega⟩
    · obtain rfl : j = ps.length := by omega
      refine WC.seq fun K hK => ?_
      refine WC.seq fun K hK => ?_
      refine WC.region rfl ?_
      refine wMI rfl rfl rfl rfl rfl ?_
      refine wMI rfl rfl rfl rfl rfl ?_
      refine wG rfl rfl (g_lt rfl (.mk rfl rfl) (.mk rfl rfl) (decide_eq_false (by omega))) ?_
      refine WL.nil (hK _ _ ?_); clear hK
      refine WC.cond_false (.mk rfl rfl) ?_
      refine WC.exit ?_
      (clear hK; refine hK _ _ ?_; clear hK)
      refine WC.seq fun K hK => ?_
      refine WC.region rfl ?_
      refine wMS rfl rfl rfl rfl rfl ?_
      refine wMS rfl rfl rfl rfl rfl ?_
      refine wAS rfl rfl rfl rfl rfl ?_
      refine wAS rfl rfl rfl rfl rfl ?_
      refine wAI rfl rfl rfl rfl rfl ?_
      refine WL.nil (hK _ _ ?_); clear hK
      refine WC.ret ?_
      exact fun w' hw' => ⟨_, [vec A62 ps.length c62 41 8 (kvs qs), vec F g.length fc 3 1 (ldv g)], rfl, Imp.h (Imp.pick (by repeat (first | exact .head | apply Take.tail)) (Imp.pick (by repeat (first | exact .head | apply Take.tail)) (Imp.nil _))) hw', A62, c62, F, fc, by rw [hap, ← hgg]; rfl, by rw [hap, ← hgg]⟩
end Go.Proofs.YtdcijljfgcjelaaGreat
namespace Go.Proofs.YtdcijljfgcjelaaGreat
set_option maxRecDepth 20000
open Go.RowKit
attribute [local irreducible] Calls
set_option maxHeartbeats 1000000 in
theorem intseq_e (v1 v2 : Value) (a b : List Int) (w : World) (h1 : Sl w 1 v1 a.length (ivs a)) (h2 : Sl w 1 v2 b.length (ivs b)) :
    Calls Tryz.prog 52 #[v1, v2] w fun e w' => e = .returned (.bool (decide (a = b))) ∧ Below w.heap.size w w' := by
  obtain ⟨A, c, rfl, hc, hm, hs⟩ := h1.open_
  obtain ⟨A2, c2, rfl, hc2, hm2, hs2⟩ := h2.open_
  unfold maxLen at hm
  by_cases hl : a.length = b.length
  · refine calls_wc (args := [.slice A a.length c, .slice A2 b.length c2]) [4] [] Tryz.func52 rfl Tryz.ntmps52 rfl rfl rfl rfl (H.refl _) ?_
    refine WC.seq fun K hK => ?_
    refine WC.region rfl ?_
    refine wAB rfl rfl rfl rfl rfl ?_
    refine WL.nil (hK _ _ ?_); clear hK
    refine WC.seq fun K hK => ?_
    refine WC.seq fun K hK => ?_
    refine WC.region rfl ?_
    refine wMS rfl rfl rfl rfl rfl ?_
    refine wG rfl rfl (g_len rfl (.mk rfl rfl) rfl) ?_
    refine wMS rfl rfl rfl rfl rfl ?_
    refine wG rfl rfl (g_len rfl (.mk rfl rfl) rfl) ?_
    refine wG rfl rfl (g_ne rfl (.mk rfl rfl) (.mk rfl rfl) (decide_eq_false (by omega))) ?_
    refine WL.nil (hK _ _ ?_); clear hK
    refine WC.cond_false (.mk rfl rfl) ?_
    refine WC.skip ?_
    (refine hK _ _ ?_; clear hK)
    refine WC.seq fun K hK => ?_
    refine WC.seq fun K hK => ?_
    refine WC.region rfl ?_
    refine wMS rfl rfl rfl rfl rfl ?_
    refine wG rfl rfl (g_len rfl (.mk rfl rfl) rfl) ?_
    refine wMI rfl rfl rfl rfl rfl ?_
    refine WL.nil (hK _ _ ?_); clear hK
    refine WC.block ?_
    refine WC.loopF (fun k : Nat => [(13, iv k), (12, iv a.length), (0, .slice A a.length c), (1, .slice A2 b.length c2)]) (fun _ => []) (fun k => k ≤ a.length ∧ Agr a b k) (fun k => a.length - k) 0 (by repeat (first | exact trivial | refine ⟨rfl, ?_⟩)) (Imp.nil _) ⟨by omega, .zero _ _⟩ ?_
    rintro k U ⟨hk, hA⟩
    by_cases hlt : k < a.length
    · have g1 := ivs_get (l := a) (k := k) hlt
      have g2 := ivs_get (l := b) (k := k) (by omega)
      by_cases he : nth a k = nth b k
      · refine WC.seq fun K hK => ?_
        refine WC.region rfl ?_
        refine wG rfl rfl (g_lt rfl (.mk rfl rfl) (.mk rfl rfl) (decide_eq_true (by omega))) ?_
        refine WL.nil (hK _ _ ?_); clear hK
        refine WC.seq fun K hK => ?_
        refine WC.cond_true (.mk rfl rfl) ?_
        refine WC.skip ?_
        (refine hK _ _ ?_; clear hK)
        refine WC.seq fun K hK => ?_
        refine WC.block ?_
        refine WC.seq fun K hK => ?_
        refine WC.region rfl ?_
        refine wMI rfl rfl rfl rfl rfl ?_
        refine wAI rfl rfl rfl rfl rfl ?_
        refine WL.nil (hK _ _ ?_); clear hK
        refine WC.seq fun K hK => ?_
        refine WC.quiet rfl (by kernel_rfl) (by decide +kernel) ?_
        refine WQ.want rfl (WQ1.give rfl (g_move rfl (.mk (v := .slice _ _ _) rfl rfl)) ?_)
        refine WQ.want rfl (WQ1.give rfl (g_move rfl (.mk (v := .int _ _) rfl rfl)) ?_)
        refine WQ.want rfl (WQ1.give rfl (g_indexAddr (sz := 1) rfl (.mk rfl rfl) (.mk rfl rfl) rfl rfl rfl (by omega) (fun _ _ => sl_some hs (by omega))) ?_)
        refine WQ.want rfl (WQ1.give rfl (g_load rfl (.mk rfl rfl) rfl (rd_sl hs g1)) ?_)
        refine WQ.want rfl (WQ1.give rfl (g_move rfl (.mk (v := .slice _ _ _) rfl rfl)) ?_)
        refine WQ.want rfl (WQ1.give rfl (g_move rfl (.mk (v := .int _ _) rfl rfl)) ?_)
        refine WQ.want rfl (WQ1.give rfl (g_indexAddr (sz := 1) rfl (.mk rfl rfl) (.mk rfl rfl) rfl rfl rfl (by omega) (fun _ _ => sl_some hs2 (by omega))) ?_)
        refine WQ.want rfl (WQ1.give rfl (g_load rfl (.mk rfl rfl) rfl (rd_sl hs2 g2)) ?_)
        refine WQ.want rfl (WQ1.give rfl (g_ne rfl (.mk rfl rfl) (.mk rfl rfl) (decide_eq_false (by omega))) ?_)
        refine WQ.nil ?_
        (refine hK _ _ ?_; clear hK)
        refine WC.cond_false (.mk rfl rfl) ?_
        refine WC.skip ?_
        (refine hK _ _ ?_; clear hK)
        refine WC.region rfl ?_
        refine wG rfl rfl (g_add rfl (.mk rfl rfl) (.mk rfl rfl) (IntWalk.i64_in _ (by omega))) ?_
        refine wMI rfl rfl rfl rfl rfl ?_
        refine WL.nil ?_
        exact ⟨k + 1, (by repeat (first | exact trivial | refine ⟨rfl, ?_⟩)), .refl _, ⟨by omega, hA.succ he⟩, by omega⟩
      · refine WC.seq fun K hK => ?_
        refine WC.region rfl ?_
        refine wG rfl rfl (g_lt rfl (.mk rfl rfl) (.mk rfl rfl) (decide_eq_true (by omega))) ?_
        refine WL.nil (hK _ _ ?_); clear hK
        refine WC.seq fun K hK => ?_
        refine WC.cond_true (.mk rfl rfl) ?_
        refine WC.skip ?_
        (refine hK _ _ ?_; clear hK)
        refine WC.seq fun K hK => ?_
        refine WC.block ?_
        refine WC.seq fun K hK => ?_
        refine WC.region rfl ?_
        refine wMI rfl rfl rfl rfl rfl ?_
        refine wAI rfl rfl rfl rfl rfl ?_
        refine WL.nil (hK _ _ ?_); clear hK
        refine WC.seq fun K hK => ?_
        refine WC.quiet rfl (by kernel_rfl) (by decide +kernel) ?_
        refine WQ.want rfl (WQ1.give rfl (g_move rfl (.mk (v := .slice _ _ _) rfl rfl)) ?_)
        refine WQ.want rfl (WQ1.give rfl (g_move rfl (.mk (v := .int _ _) rfl rfl)) ?_)
        refine WQ.want rfl (WQ1.give rfl (g_indexAddr (sz := 1) rfl (.mk rfl rfl) (.mk rfl rfl) rfl rfl rfl (by omega) (fun _ _ => sl_some hs (by omega))) ?_)
        refine WQ.want rfl (WQ1.give rfl (g_load rfl (.mk rfl rfl) rfl (rd_sl hs g1)) ?_)
        refine WQ.want rfl (WQ1.give rfl (g_move rfl (.mk (v := .slice _ _ _) rfl rfl)) ?_)
        refine WQ.want rfl (WQ1.give rfl (g_move rfl (.mk (v := .int _ _) rfl rfl)) ?_)
        refine WQ.want rfl (WQ1.give rfl (g_indexAddr (sz := 1) rfl (.mk rfl rfl) (.mk rfl rfl) rfl rfl rfl (by omega) (fun _ _ => sl_some hs2 (by omega))) ?_)
        refine WQ.want rfl (WQ1.give rfl (g_load rfl (.mk rfl rfl) rfl (rd_sl hs2 g2)) ?_)
        refine WQ.want rfl (WQ1.give rfl (g_ne rfl (.mk rfl rfl) (.mk rfl rfl) (decide_eq_true (by omega))) ?_)
        refine WQ.nil ?_
        (refine hK _ _ ?_; clear hK)
        refine WC.cond_true (.mk rfl rfl) ?_
        refine WC.seq fun K hK => ?_
        refine WC.region rfl ?_
        refine wAB rfl rfl rfl rfl rfl ?_
        refine WL.nil (hK _ _ ?_); clear hK
        refine WC.ret ?_
        exact fun w' hw' => ⟨by rw [decide_eq_false (fun h => he (by rw [h]))]; rfl, hw'.1⟩
    · obtain rfl : k = a.length := by omega
      refine WC.seq fun K hK => ?_
      refine WC.region rfl ?_
      refine wG rfl rfl (g_lt rfl (.mk rfl rfl) (.mk rfl rfl) (decide_eq_false (by omega))) ?_
      refine WL.nil (hK _ _ ?_); clear hK
      refine WC.seq fun K hK => ?_
      refine WC.cond_false (.mk rfl rfl) ?_
      refine WC.exit ?_
      (clear hK; refine hK _ _ ?_; clear hK)
      refine WC.seq fun K hK => ?_
      refine WC.region rfl ?_
      refine wAB rfl rfl rfl rfl rfl ?_
      refine WL.nil (hK _ _ ?_); clear hK
      refine WC.ret ?_
      exact fun w' hw' => ⟨by rw [decide_eq_true (hA.all hl)]; rfl, hw'.1⟩
  · refine calls_wc (args := [.slice A a.length c, .slice A2 b.length c2]) [4] [] Tryz.func52 rfl Tryz.ntmps52 rfl rfl rfl rfl (H.refl _) ?_
    refine WC.seq fun K hK => ?_
    refine WC.region rfl ?_
    refine wAB rfl rfl rfl rfl rfl ?_
    refine WL.nil (hK _ _ ?_); clear hK
    refine WC.seq fun K hK => ?_
    refine WC.seq fun K hK => ?_
    refine WC.region rfl ?_
    refine wMS rfl rfl rfl rfl rfl ?_
    refine wG rfl rfl (g_len rfl (.mk rfl rfl) rfl) ?_
    refine wMS rfl rfl rfl rfl rfl ?_
    refine wG rfl rfl (g_len rfl (.mk rfl rfl) rfl) ?_
    refine wG rfl rfl (g_ne rfl (.mk rfl rfl) (.mk rfl rfl) (decide_eq_true (by omega))) ?_
    refine WL.nil (hK _ _ ?_); clear hK
    refine WC.cond_true (.mk rfl rfl) ?_
    refine WC.seq fun K hK => ?_
    refine WC.region rfl ?_
    refine wAB rfl rfl rfl rfl rfl ?_
    refine WL.nil (hK _ _ ?_); clear hK
    refine WC.ret ?_
    exact fun w' hw' => ⟨by rw [decide_eq_false (fun h => hl (by rw [h]))]; rfl, hw'.1⟩
end Go.Proofs.YtdcijljfgcjelaaGreat
namespace Go.Proofs.YtdcijljfgcjelaaGreat
set_option maxRecDepth 20000
open Go.RowKit
attribute [local irreducible] Calls
structure PWr where
  g : Int
  p : Int
  v : Int
  b : Blk
instance : Inhabited PWr := ⟨⟨0, 0, 0, 0⟩⟩
def PWr.cells (x : PWr) : List Value := iv x.g :: iv x.p :: .int .u64 x.v :: x.b.cells
abbrev pws (l : List PWr) : List Value := l.flatMap PWr.cells
def PWr.ok (x : PWr) : Prop := (Lit.int .i64 x.g).wf = true ∧ (Lit.int .i64 x.p).wf = true ∧ (Lit.int .u64 x.v).wf = true
end Go.Proofs.YtdcijljfgcjelaaGreat
namespace Go.Proofs.YtdcijljfgcjelaaGreat
set_option maxRecDepth 20000
open Go.RowKit
attribute [local irreducible] Calls
def rtP (l : List Chg) (i k : Nat) : List Nat := numL (fun j : Nat => (lastC l j l.length).isSome) i ++ if (lastC l i k).isSome then [i] else []
theorem rtP_zero (l : List Chg) (i : Nat) : rtP l i 0 = numL (fun j : Nat => (lastC l j l.length).isSome) i := by unfold rtP lastC; simp
theorem rtP_end (l : List Chg) (i : Nat) : rtP l i l.length = numL (fun j : Nat => (lastC l j l.length).isSome) (i + 1) := by
  unfold rtP
  by_cases h : (lastC l i l.length).isSome = true
  · rw [if_pos h, numL_T' h]
  · rw [if_neg h, numL_F' (by simpa using h), List.append_nil]
theorem rtP_mem (l : List Chg) (i k : Nat) : i ∈ rtP l i k ↔ (lastC l i k).isSome = true := by
  unfold rtP
  rw [List.mem_append, numL_mem]
  by_cases h : (lastC l i k).isSome = true
  · rw [if_pos h]; simp [h]
  · rw [if_neg h]; simp [h]
theorem rtP_len (l : List Chg) (i k : Nat) : (rtP l i k).length ≤ i + 1 := by
  have := numL_le (fun j : Nat => (lastC l j l.length).isSome) i
  unfold rtP
  rw [List.length_append]
  split <;> simp <;> omega
theorem rtP_miss {l : List Chg} {i k : Nat} (h : (nth l k).s ≠ i) : rtP l i (k + 1) = rtP l i k := by unfold rtP; rw [lastC, if_neg h]
theorem rtP_again {l : List Chg} {i k : Nat} (h : (nth l k).s = i) (h2 : (lastC l i k).isSome = true) : rtP l i (k + 1) = rtP l i k := by
  unfold rtP; rw [lastC, if_pos h, h2]; rfl
theorem rtP_new {l : List Chg} {i k : Nat} (h : (nth l k).s = i) (h2 : (lastC l i k).isSome = false) : rtP l i (k + 1) = rtP l i k ++ [i] := by
  unfold rtP; rw [lastC, if_pos h, h2]; simp
theorem has_k {v : Value} {l : List Nat} {n x : Nat} {w : World} (hn : l.length = n) (h : Sl w 1 v n (ldv l)) : Calls Tryz.prog 47 #[v, iv x] w fun e w' => e = .returned (.bool (decide (x ∈ l))) ∧ Below w.heap.size w w' := by
  subst hn
  have := has_e v (ints l) x w (by rw [ints_len, ← ldv_ints]; exact h)
  rwa [hasB_ints] at this
set_option maxHeartbeats 2000000 in
theorem rtouched_n (v : Value) (l : List Chg) (m : Nat) (w : World) (hv : Sl w 9 v l.length (cvs l)) (hm16 : m ≤ 1000) :
    Calls Tryz.prog 16 #[iv m, v] w fun e w' => ∃ v' M, e = .returned v' ∧ H w M w' ∧ ∃ A c, v' = .slice A (tch l m).length c ∧ M = [vec A (tch l m).length c 3 1 (ldv (tch l m))] := by
  obtain ⟨A, c, rfl, hc, hm, hs⟩ := hv.open_
  unfold maxLen at hm
  unfold tch
  obtain ⟨p, hp⟩ : ∃ p, p = (fun j : Nat => (lastC l j l.length).isSome) := ⟨_, rfl⟩
  rw [← hp]
  refine calls_wc (args := [iv m, .slice A l.length c]) [4] [] Tryz.func16 rfl Tryz.ntmps16 rfl rfl rfl rfl (H.refl _) ?_
  refine WC.seq fun K hK => ?_
  refine WC.region rfl ?_
  refine wAS rfl rfl rfl rfl rfl ?_
  refine WL.nil (hK _ _ ?_); clear hK
  refine WC.seq fun K hK => ?_
  refine WC.region rfl ?_
  refine wAS rfl rfl rfl rfl rfl ?_
  refine WL.nil (hK _ _ ?_); clear hK
  refine WC.seq fun K hK => ?_
  refine WC.seq fun K hK => ?_
  refine WC.region rfl ?_
  refine wAI rfl rfl rfl rfl rfl ?_
  refine WL.nil (hK _ _ ?_); clear hK
  refine WC.block ?_
  refine WC.nilvec 3 1 ?_
  
  refine WC.loopF3 (fun (i : Nat) (F : Option Addr) (fc : Nat) => [(6, iv i), (5, .slice F (numL p i).length fc), (0, iv m), (1, .slice A l.length c)]) (fun i F fc => [vec F (numL p i).length fc 3 1 (ldv (numL p i))]) (fun i _ _ => i ≤ m) (fun i _ _ => m - i) 0 none 0 (by repeat (first | exact trivial | refine ⟨rfl, ?_⟩)) (.refl _) (by omega) ?_
  intro i F fc U hi
  by_cases hlt : i < m
  · have h0 : numL p i = rtP l i 0 := by rw [rtP_zero, hp]
    have hE : rtP l i l.length = numL p (i + 1) := by rw [rtP_end, hp]
    rw [h0]
    clear h0
    refine WC.seq fun K hK => ?_
    refine WC.seq fun K hK => ?_
    refine WC.region rfl ?_
    refine wMI rfl rfl rfl rfl rfl ?_
    refine wMI rfl rfl rfl rfl rfl ?_
    refine wG rfl rfl (g_lt rfl (.mk rfl rfl) (.mk rfl rfl) (decide_eq_true (by omega))) ?_
    refine WL.nil (hK _ _ ?_); clear hK
    refine WC.cond_true (.mk rfl rfl) ?_
    refine WC.skip ?_
    (refine hK _ _ ?_; clear hK)
    refine WC.seq fun K hK => ?_
    refine WC.block ?_
    refine WC.seq fun K hK => ?_
    refine WC.region rfl ?_
    refine wAI rfl rfl rfl rfl rfl ?_
    refine WL.nil (hK _ _ ?_); clear hK
    refine WC.block ?_
    refine WC.loopF3 (fun (k : Nat) (F : Option Addr) (fc : Nat) => [(7, iv k), (6, iv i), (5, .slice F (rtP l i k).length fc), (0, iv m), (1, .slice A l.length c)]) (fun k F fc => [vec F (rtP l i k).length fc 3 1 (ldv (rtP l i k))]) (fun k _ _ => k ≤ l.length) (fun k _ _ => l.length - k) 0 F fc (by repeat (first | exact trivial | refine ⟨rfl, ?_⟩)) (.refl _) (by omega) ?_
    intro k F2 fc2 U2 hk
    have hle := rtP_len l i k
    by_cases hltk : k < l.length
    · have hgs : (cvs l)[k * 9 + 0]? = some (iv (nth l k).s) := chg_row (l := l) (k := k) hltk 0 _ rfl
      have hmem := rtP_mem l i k
      obtain ⟨g, hg⟩ : ∃ g, g = rtP l i k := ⟨_, rfl⟩
      by_cases he : (nth l k).s = i
      · rw [he] at hgs
        cases hso : (lastC l i k).isSome with
        | true =>
          have hst := rtP_again he hso
          rw [← hg] at hst hmem hle ⊢
          have hin : decide (i ∈ g) = true := decide_eq_true (hmem.2 hso)
          have hhas : ∀ w v, Sl w 1 v g.length (ldv g) → Calls Tryz.prog 47 #[v, iv i] w fun e w' => e = .returned (.bool true) ∧ Below w.heap.size w w' := fun w v h => by have := has_k (x := i) rfl h; rwa [hin] at this
          refine WC.seq fun K hK => ?_
          refine WC.seq fun K hK => ?_
          refine WC.region rfl ?_
          refine wMI rfl rfl rfl rfl rfl ?_
          refine wMS rfl rfl rfl rfl rfl ?_
          refine wG rfl rfl (g_len rfl (.mk rfl rfl) rfl) ?_
          refine wG rfl rfl (g_lt rfl (.mk rfl rfl) (.mk rfl rfl) (decide_eq_true (by omega))) ?_
          refine WL.nil (hK _ _ ?_); clear hK
          refine WC.cond_true (.mk rfl rfl) ?_
          refine WC.skip ?_
          (refine hK _ _ ?_; clear hK)
          refine WC.seq fun K hK => ?_
          refine WC.block ?_
          refine WC.seq fun K hK => ?_
          refine WC.region rfl ?_
          refine wMS rfl rfl rfl rfl rfl ?_
          refine wMI rfl rfl rfl rfl rfl ?_
          refine wG rfl rfl (g_indexAddr (sz := 9) rfl (.mk rfl rfl) (.mk rfl rfl) rfl rfl rfl (by omega) (fun _ _ => sl_some hs (by omega))) ?_
          refine wG rfl rfl (g_fieldAddr (off := 0) rfl (.mk rfl rfl) rfl (fun _ _ => sl_some hs (by omega))) ?_
          refine wG rfl rfl (g_load rfl (.mk rfl rfl) rfl (rd_sl hs hgs)) ?_
          refine wMI rfl rfl rfl rfl rfl ?_
          refine wG rfl rfl (g_eq rfl (.mk rfl rfl) (.mk rfl rfl) (decide_eq_true (by omega))) ?_
          refine wMB rfl rfl rfl rfl rfl ?_
          refine WL.wantG rfl rfl rfl rfl (WL1.give rfl (g_move rfl (.mk (v := .slice _ _ _) rfl rfl)) ?_)
          refine WL.wantG rfl rfl rfl rfl (WL1.give rfl (g_move rfl (.mk (v := .int _ _) rfl rfl)) ?_)
          refine WL.wantG rfl rfl rfl rfl (WL1.callP rfl rfl rfl (.cons (.mk (v := .slice _ _ _) rfl rfl) (.cons (.mk (v := .int _ _) rfl rfl) .nil)) (fun w hw => hhas w _ (Sl.of_vec hw (by repeat (first | exact .head _ | apply List.Mem.tail)))) ?_)
          refine WL.wantG rfl rfl rfl rfl (WL1.give rfl (g_notT rfl (.mk rfl rfl)) ?_)
          refine wG rfl rfl (g_pickT rfl (.mk rfl rfl) (.mk (v := .bool _) rfl rfl)) ?_
          refine WL.nil (hK _ _ ?_); clear hK
          refine WC.cond_false (.mk rfl rfl) ?_
          refine WC.skip ?_
          (refine hK _ _ ?_; clear hK)
          refine WC.region rfl ?_
          refine wMI rfl rfl rfl rfl rfl ?_
          refine wG rfl rfl (g_add rfl (.mk rfl rfl) (.mk rfl rfl) (IntWalk.i64_in _ (by omega))) ?_
          refine wAI rfl rfl rfl rfl rfl ?_
          refine WL.nil ?_
          exact ⟨k + 1, F2, fc2, by rw [hst]; exact (by repeat (first | exact trivial | refine ⟨rfl, ?_⟩)), by rw [hst]; exact .refl _, by omega, by omega⟩
        | false =>
          have hst := rtP_new he hso
          rw [← hg] at hst hmem hle ⊢
          have hin : decide (i ∈ g) = false := decide_eq_false fun h => by rw [hmem.1 h] at hso; cases hso
          have hhas : ∀ w v, Sl w 1 v g.length (ldv g) → Calls Tryz.prog 47 #[v, iv i] w fun e w' => e = .returned (.bool false) ∧ Below w.heap.size w w' := fun w v h => by have := has_k (x := i) rfl h; rwa [hin] at this
          have hl1 : (g ++ [i]).length = g.length + 1 := by rw [List.length_append]; rfl
          refine WC.seq fun K hK => ?_
          refine WC.seq fun K hK => ?_
          refine WC.region rfl ?_
          refine wMI rfl rfl rfl rfl rfl ?_
          refine wMS rfl rfl rfl rfl rfl ?_
          refine wG rfl rfl (g_len rfl (.mk rfl rfl) rfl) ?_
          refine wG rfl rfl (g_lt rfl (.mk rfl rfl) (.mk rfl rfl) (decide_eq_true (by omega))) ?_
          refine WL.nil (hK _ _ ?_); clear hK
          refine WC.cond_true (.mk rfl rfl) ?_
          refine WC.skip ?_
          (refine hK _ _ ?_; clear hK)
          refine WC.seq fun K hK => ?_
          refine WC.block ?_
          refine WC.seq fun K hK => ?_
          refine WC.region rfl ?_
          refine wMS rfl rfl rfl rfl rfl ?_
          refine wMI rfl rfl rfl rfl rfl ?_
          refine wG rfl rfl (g_indexAddr (sz := 9) rfl (.mk rfl rfl) (.mk rfl rfl) rfl rfl rfl (by omega) (fun _ _ => sl_some hs (by omega))) ?_
          refine wG rfl rfl (g_fieldAddr (off := 0) rfl (.mk rfl rfl) rfl (fun _ _ => sl_some hs (by omega))) ?_
          refine wG rfl rfl (g_load rfl (.mk rfl rfl) rfl (rd_sl hs hgs)) ?_
          refine wMI rfl rfl rfl rfl rfl ?_
          refine wG rfl rfl (g_eq rfl (.mk rfl rfl) (.mk rfl rfl) (decide_eq_true (by omega))) ?_
          refine wMB rfl rfl rfl rfl rfl ?_
          refine WL.wantG rfl rfl rfl rfl (WL1.give rfl (g_move rfl (.mk (v := .slice _ _ _) rfl rfl)) ?_)
          refine WL.wantG rfl rfl rfl rfl (WL1.give rfl (g_move rfl (.mk (v := .int _ _) rfl rfl)) ?_)
          refine WL.wantG rfl rfl rfl rfl (WL1.callP rfl rfl rfl (.cons (.mk (v := .slice _ _ _) rfl rfl) (.cons (.mk (v := .int _ _) rfl rfl) .nil)) (fun w hw => hhas w _ (Sl.of_vec hw (by repeat (first | exact .head _ | apply List.Mem.tail)))) ?_)
          refine WL.wantG rfl rfl rfl rfl (WL1.give rfl (g_notF rfl (.mk rfl rfl)) ?_)
          refine wG rfl rfl (g_pickT rfl (.mk rfl rfl) (.mk (v := .bool _) rfl rfl)) ?_
          refine WL.nil (hK _ _ ?_); clear hK
          refine WC.cond_true (.mk rfl rfl) ?_
          refine WC.region rfl ?_
          refine wMS rfl rfl rfl rfl rfl ?_
          refine wMI rfl rfl rfl rfl rfl ?_
          refine WL.want rfl (WL1.lit (cs := [_]) elI rfl rfl rfl (.cons (.mk (v := .int _ _) rfl rfl) .nil) rfl (by first | (simp [Value.cells]; done) | fail) rfl rfl (fun b34 => ?_))
          refine WL.want rfl (WL1.append elI rfl rfl (.mk rfl rfl) (.mk rfl rfl) (.tail (.head)) (fun w hw => Sl.of_vec hw (.head _)) (all1 rfl) (by unfold maxLen; omega) (by omega) (fun A35 c35 => ?_))
          refine wAS rfl rfl rfl rfl rfl ?_
          refine WL.nil (hK _ _ ?_); clear hK
          refine WC.region rfl ?_
          refine wMI rfl rfl rfl rfl rfl ?_
          refine wG rfl rfl (g_add rfl (.mk rfl rfl) (.mk rfl rfl) (IntWalk.i64_in _ (by omega))) ?_
          refine wAI rfl rfl rfl rfl rfl ?_
          refine WL.nil ?_
          exact ⟨k + 1, A35, c35, by rw [hst, hl1]; exact (by repeat (first | exact trivial | refine ⟨rfl, ?_⟩)), by rw [hst, hl1, ← ldv_snoc]; exact Imp.pick (by repeat (first | exact .head | apply Take.tail)) (Imp.nil _), by omega, by omega⟩
      · have hst := rtP_miss he
        obtain ⟨z, hz⟩ : ∃ z, z = (nth l k).s := ⟨_, rfl⟩
        rw [← hz] at hgs he
        rw [← hg] at hst hle ⊢
        refine WC.seq fun K hK => ?_
        refine WC.seq fun K hK => ?_
        refine WC.region rfl ?_
        refine wMI rfl rfl rfl rfl rfl ?_
        refine wMS rfl rfl rfl rfl rfl ?_
        refine wG rfl rfl (g_len rfl (.mk rfl rfl) rfl) ?_
        refine wG rfl rfl (g_lt rfl (.mk rfl rfl) (.mk rfl rfl) (decide_eq_true (by omega))) ?_
        refine WL.nil (hK _ _ ?_); clear hK
        refine WC.cond_true (.mk rfl rfl) ?_
        refine WC.skip ?_
        (refine hK _ _ ?_; clear hK)
        refine WC.seq fun K hK => ?_
        refine WC.block ?_
        refine WC.seq fun K hK => ?_
        refine WC.region rfl ?_
        refine wMS rfl rfl rfl rfl rfl ?_
        refine wMI rfl rfl rfl rfl rfl ?_
        refine wG rfl rfl (g_indexAddr (sz := 9) rfl (.mk rfl rfl) (.mk rfl rfl) rfl rfl rfl (by omega) (fun _ _ => sl_some hs (by omega))) ?_
        refine wG rfl rfl (g_fieldAddr (off := 0) rfl (.mk rfl rfl) rfl (fun _ _ => sl_some hs (by omega))) ?_
        refine wG rfl rfl (g_load rfl (.mk rfl rfl) rfl (rd_sl hs hgs)) ?_
        refine wMI rfl rfl rfl rfl rfl ?_
        refine wG rfl rfl (g_eq rfl (.mk rfl rfl) (.mk rfl rfl) (decide_eq_false (by omega))) ?_
        refine wMB rfl rfl rfl rfl rfl ?_
        refine WL.skipG rfl rfl rfl rfl rfl rfl ?_
        refine WL.skipG rfl rfl rfl rfl rfl rfl ?_
        refine WL.skipG rfl rfl rfl rfl rfl rfl ?_
        refine WL.skipG rfl rfl rfl rfl rfl rfl ?_
        refine wG rfl rfl (g_pickF rfl (.mk rfl rfl) (.mk (v := .bool _) rfl rfl)) ?_
        refine WL.nil (hK _ _ ?_); clear hK
        refine WC.cond_false (.mk rfl rfl) ?_
        refine WC.skip ?_
        (refine hK _ _ ?_; clear hK)
        refine WC.region rfl ?_
        refine wMI rfl rfl rfl rfl rfl ?_
        refine wG rfl rfl (g_add rfl (.mk rfl rfl) (.mk rfl rfl) (IntWalk.i64_in _ (by omega))) ?_
        refine wAI rfl rfl rfl rfl rfl ?_
        refine WL.nil ?_
        exact ⟨k + 1, F2, fc2, by rw [hst]; exact (by repeat (first | exact trivial | refine ⟨rfl, ?_⟩)), by rw [hst]; exact .refl _, by omega, by omega⟩
    · obtain rfl : k = l.length := by omega
      refine WC.seq fun K hK => ?_
      refine WC.seq fun K hK => ?_
      refine WC.region rfl ?_
      refine wMI rfl rfl rfl rfl rfl ?_
      refine wMS rfl rfl rfl rfl rfl ?_
      refine wG rfl rfl (g_len rfl (.mk rfl rfl) rfl) ?_
      refine wG rfl rfl (g_lt rfl (.mk rfl rfl) (.mk rfl rfl) (decide_eq_false (by omega))) ?_
      refine WL.nil (hK _ _ ?_); clear hK
      refine WC.cond_false (.mk rfl rfl) ?_
      refine WC.exit ?_
      (clear hK; refine hK _ _ ?_; clear hK)
      refine WC.region rfl ?_
      refine wMI rfl rfl rfl rfl rfl ?_
      refine wG rfl rfl (g_add rfl (.mk rfl rfl) (.mk rfl rfl) (IntWalk.i64_in _ (by omega))) ?_
      refine wAI rfl rfl rfl rfl rfl ?_
      refine WL.nil ?_
      exact ⟨i + 1, F2, fc2, by rw [← hE]; exact (by repeat (first | exact trivial | refine ⟨rfl, ?_⟩)), by rw [← hE]; exact .refl _, by omega, by omega⟩
  · obtain rfl : i = m := by omega
    refine WC.seq fun K hK => ?_
    refine WC.seq fun K hK => ?_
    refine WC.region rfl ?_
    refine wMI rfl rfl rfl rfl rfl ?_
    refine wMI rfl rfl rfl rfl rfl ?_
    refine wG rfl rfl (g_lt rfl (.mk rfl rfl) (.mk rfl rfl) (decide_eq_false (by omega))) ?_
    refine WL.nil (hK _ _ ?_); clear hK
    refine WC.cond_false (.mk rfl rfl) ?_
    refine WC.exit ?_
    (clear hK; refine hK _ _ ?_; clear hK)
    refine WC.seq fun K hK => ?_
    refine WC.region rfl ?_
    refine wMS rfl rfl rfl rfl rfl ?_
    refine wAS rfl rfl rfl rfl rfl ?_
    refine WL.nil (hK _ _ ?_); clear hK
    refine WC.ret ?_
    exact fun w' hw' => ⟨_, _, rfl, hw', F, fc, rfl, rfl⟩
theorem chg_spls (s : Int) (b : Blk) : spls (plT Tryz.prog 54) (iv 0 :: z8) [(0, [iv s]), (1, b.cells)] = Chg.cells ⟨s, b⟩ := by
  obtain ⟨l, hl⟩ := b
  match l, hl with
  | [b0, b1, b2, b3, b4, b5, b6, b7], _ => rfl
theorem chg_spls' (s : Int) (b : Blk) : spls (plT Tryz.prog 55) (iv 0 :: z8) [(0, [iv s]), (1, b.cells)] = Chg.cells ⟨s, b⟩ := by
  obtain ⟨l, hl⟩ := b
  match l, hl with
  | [b0, b1, b2, b3, b4, b5, b6, b7], _ => rfl
theorem resL_len (l : List Chg) (T : List Nat) (N : Nat) (p : List Blk) : (resL l T N p).length = T.length + 3 := by simp [resL]
theorem resL_lo {l : List Chg} {T : List Nat} {N : Nat} {p : List Blk} {i : Nat} (h : i < T.length) : nth (resL l T N p) i = ⟨(nth T i : Nat), lstB l (nth T i)⟩ := by
  unfold resL nth
  rw [List.getD_eq_getElem?_getD, List.getElem?_append_left (by rw [List.length_map]; exact h), List.getElem?_map, List.getD_eq_getElem?_getD, List.getElem?_eq_getElem h]; rfl
theorem resL_hi {l : List Chg} {T : List Nat} {N : Nat} {p : List Blk} {j : Nat} (h : j < 3) : nth (resL l T N p) (T.length + j) = ⟨((N + j : Nat) : Int), nth p j⟩ := by
  unfold resL
  unfold nth
  rw [List.getD_eq_getElem?_getD, List.getElem?_append_right (by rw [List.length_map]; omega), List.length_map, show T.length + j - T.length = j from by omega, List.getElem?_map, List.getElem?_range h]; rfl
theorem cvs_snoc (l : List Chg) (x : Chg) : cvs l ++ x.cells = cvs (l ++ [x]) := by unfold cvs; rw [List.flatMap_append]; simp
/-! ### results compared, converted -/
def Chg.wf (x : Chg) : Prop := (Lit.int .i64 x.s).wf = true
end Go.Proofs.YtdcijljfgcjelaaGreat
namespace Go.Proofs.YtdcijljfgcjelaaGreat
set_option maxRecDepth 20000
open Go.RowKit
attribute [local irreducible] Calls
def trB (M k : Nat) : List Bool := (List.range M).map fun j => decide (j < k)
theorem trB_len (M k : Nat) : (trB M k).length = M := by simp [trB]
theorem trB_nth {M k j : Nat} (h : j < M) : nth (trB M k) j = decide (j < k) := nth_range _ h
theorem nth_rep {α : Type} [Inhabited α] {M j : Nat} {a : α} (h : j < M) : nth (List.replicate M a) j = a := by
  unfold nth; rw [List.getD_eq_getElem?_getD, List.getElem?_replicate, if_pos h]; rfl
theorem trB_zero (M : Nat) : List.replicate M false = trB M 0 := list_ext_nth (by rw [trB_len, List.length_replicate]) fun j hj => by
  rw [List.length_replicate] at hj
  rw [trB_nth hj, nth_rep hj]; exact (decide_eq_false (by omega)).symm
theorem trB_set {M k : Nat} (h : k < M) : (trB M k).set k true = trB M (k + 1) := list_ext_nth (by rw [List.length_set, trB_len, trB_len]) fun j hj => by
  rw [List.length_set, trB_len] at hj
  rw [nth_set_eq (by rw [trB_len]; exact h), trB_nth hj, trB_nth hj]
  by_cases e : j = k
  · rw [if_pos e, decide_eq_true (by omega)]
  · rw [if_neg e]; congr 1; exact propext ⟨fun h => by omega, fun h => by omega⟩
theorem trB_all (N : Nat) (R : List Nat) : trB (N + 3) (N + 3) = frB N R 0 := list_ext_nth (by rw [trB_len, frB_len]) fun j hj => by
  rw [trB_len] at hj
  rw [trB_nth hj, frB, nth_rep hj, decide_eq_true hj]
theorem rsP_set {N : Nat} {O : List Blk} {R : List Nat} {i z : Nat} {y : Blk} (hz : nth R i = z) (hy : nth O i = y) : (rsP N O R i).set z y = rsP N O R (i + 1) := by rw [← hz, ← hy]; rfl
theorem frB_set {N : Nat} {R : List Nat} {i z : Nat} (hz : nth R i = z) : (frB N R i).set z false = frB N R (i + 1) := by rw [← hz]; rfl
theorem bls_put {l : List Bool} {k i : Nat} {x : Bool} (h : i = k) : (bls l).set i (.bool x) = bls (l.set k x) := by rw [h]; exact bls_set l k x
section
variable {w : World} {A B : Option Addr} {c d N : Nat} {R : List Int} {O : List Blk}
set_option maxHeartbeats 4000000 in
theorem gfrom_n (hN1 : 1 ≤ N) (hN2 : N ≤ 13) (hRO : R.length = O.length) (hR : R.length = N) (hok : ∀ i, i < N → okR (N + 3) R i) (hs : Sl w 1 (.slice A R.length c) R.length (ivs R)) (hsb : Sl w 8 (.slice B O.length d) O.length (kvs O)) :
    Calls Tryz.prog 54 #[iv ((N + 3 : Nat) : Int), .slice A R.length c, .slice B O.length d] w fun e w' => ∃ v' M, e = .returned v' ∧ H w M w' ∧ ∃ A1 c1, v' = .tuple #[.slice A1 N c1, .bool true] ∧ M = [vec A1 N c1 41 8 (kvs (frD N O R))] := by
  have hsub : IntKind.i64.wrap (((N + 3 : Nat) : Int) - 3) = (N : Int) := by rw [IntWalk.i64_in _ (by omega)]; omega
  have hz1 := zeros_made (N + 3)
  have hb1 := bls_made (N + 3)
  rw [trB_zero] at hb1
  have hr0 : kvs (List.replicate (N + 3) 0) = kvs (rsP (N + 3) O (nats R) 0) := rfl
  rw [hr0] at hz1
  have hRl : (R.length : Int) = N := by omega
  refine calls_wc (args := [iv ((N + 3 : Nat) : Int), .slice A R.length c, .slice B O.length d]) [6, 7] [] Tryz.func54 rfl Tryz.ntmps54 rfl rfl rfl rfl (H.refl _) ?_
  refine WC.seq fun K hK => ?_
  refine WC.region rfl ?_
  refine wAS rfl rfl rfl rfl rfl ?_
  refine wAB rfl rfl rfl rfl rfl ?_
  refine WL.nil (hK _ _ ?_); clear hK
  refine WC.seq fun K hK => ?_
  refine WC.seq fun K hK => ?_
  refine WC.region rfl ?_
  refine wMS rfl rfl rfl rfl rfl ?_
  refine wG rfl rfl (g_len rfl (.mk rfl rfl) rfl) ?_
  refine wMI rfl rfl rfl rfl rfl ?_
  refine wG rfl rfl (g_sub rfl (.mk rfl rfl) (.mk rfl rfl) hsub) ?_
  refine wG rfl rfl (g_ne rfl (.mk rfl rfl) (.mk rfl rfl) (decide_eq_false (by omega))) ?_
  refine WL.nil (hK _ _ ?_); clear hK
  refine WC.cond_false (.mk rfl rfl) ?_
  refine WC.skip ?_
  (refine hK _ _ ?_; clear hK)
  refine WC.seqF (fun q : Nat × Nat => [(8, .slice (some ⟨q.1, 0, none⟩) (N + 3) (N + 3)), (9, .slice (some ⟨q.2, 0, none⟩) (N + 3) (N + 3)), (0, iv ((N + 3 : Nat) : Int)), (1, .slice A R.length c), (2, .slice B O.length d)]) (fun q => [vec (some ⟨q.1, 0, none⟩) (N + 3) (N + 3) 41 8 (kvs (rsP (N + 3) O (nats R) 0)), vec (some ⟨q.2, 0, none⟩) (N + 3) (N + 3) 4 1 (bls (trB (N + 3) 0))]) (fun _ => True) ?_ (fun q U _ => ?_)
  refine WC.held [] rfl (by kernel_rfl) ?_
  refine WH.take 0 rfl (by decide +kernel) (by decide +kernel) (by decide +kernel) rfl rfl (Imp.sub (by first | ((repeat (first | exact List.nil_sublist _ | exact List.Sublist.refl _ | apply List.Sublist.cons_cons | apply List.Sublist.cons)); done) | fail)) (g_move rfl (.mk (v := .int _ _) rfl rfl)) ?_
  refine WH.take 2 rfl (by decide +kernel) (by decide +kernel) (by decide +kernel) rfl rfl (Imp.sub (by first | ((repeat (first | exact List.nil_sublist _ | exact List.Sublist.refl _ | apply List.Sublist.cons_cons | apply List.Sublist.cons)); done) | fail)) (g_move rfl (.mk (v := .int _ _) rfl rfl)) ?_
  refine WH.two 1 3 (by decide +kernel) rfl rfl rfl rfl ?_ ?_
  refine WL1.make elK rfl rfl (.mk rfl rfl) (.mk rfl rfl) rfl rfl (by omega) (by unfold maxLen; omega) (fun b21 => ?_)
  refine WL.nil ?_
  refine ⟨(Imp.sub (by first | ((repeat (first | exact List.nil_sublist _ | exact List.Sublist.refl _ | apply List.Sublist.cons_cons | apply List.Sublist.cons)); done) | fail)), ?_⟩
  refine WH.take 4 rfl (by decide +kernel) (by decide +kernel) (by decide +kernel) rfl rfl (Imp.sub (by first | ((repeat (first | exact List.nil_sublist _ | exact List.Sublist.refl _ | apply List.Sublist.cons_cons | apply List.Sublist.cons)); done) | fail)) (g_assign rfl (.mk (v := .slice _ _ _) rfl rfl)) ?_
  refine WH.one 3 (by decide +kernel) rfl rfl ?_
  refine WL1.make elBo rfl rfl (.mk rfl rfl) (.mk rfl rfl) rfl rfl (by omega) (by unfold maxLen; omega) (fun b23 => ?_)
  refine WL.nil ?_
  refine ⟨(Imp.sub (by first | ((repeat (first | exact List.nil_sublist _ | exact List.Sublist.refl _ | apply List.Sublist.cons_cons | apply List.Sublist.cons)); done) | fail)), ?_⟩
  refine WH.take 5 rfl (by decide +kernel) (by decide +kernel) (by decide +kernel) rfl rfl (Imp.sub (by first | ((repeat (first | exact List.nil_sublist _ | exact List.Sublist.refl _ | apply List.Sublist.cons_cons | apply List.Sublist.cons)); done) | fail)) (g_assign rfl (.mk (v := .slice _ _ _) rfl rfl)) ?_
  refine WH.done (by decide +kernel) ?_
  rotate_left
  refine WL1.make elBo rfl rfl (.mk rfl rfl) (.mk rfl rfl) rfl rfl (by omega) (by unfold maxLen; omega) (fun b23 => ?_)
  refine WL.nil ?_
  refine ⟨(Imp.sub (by first | ((repeat (first | exact List.nil_sublist _ | exact List.Sublist.refl _ | apply List.Sublist.cons_cons | apply List.Sublist.cons)); done) | fail)), ?_⟩
  refine WH.one 1 (by decide +kernel) rfl rfl ?_
  refine WL1.make elK rfl rfl (.mk rfl rfl) (.mk rfl rfl) rfl rfl (by omega) (by unfold maxLen; omega) (fun b21 => ?_)
  refine WL.nil ?_
  refine ⟨(Imp.sub (by first | ((repeat (first | exact List.nil_sublist _ | exact List.Sublist.refl _ | apply List.Sublist.cons_cons | apply List.Sublist.cons)); done) | fail)), ?_⟩
  refine WH.take 4 rfl (by decide +kernel) (by decide +kernel) (by decide +kernel) rfl rfl (Imp.sub (by first | ((repeat (first | exact List.nil_sublist _ | exact List.Sublist.refl _ | apply List.Sublist.cons_cons | apply List.Sublist.cons)); done) | fail)) (g_assign rfl (.mk (v := .slice _ _ _) rfl rfl)) ?_
  refine WH.take 5 rfl (by decide +kernel) (by decide +kernel) (by decide +kernel) rfl rfl (Imp.sub (by first | ((repeat (first | exact List.nil_sublist _ | exact List.Sublist.refl _ | apply List.Sublist.cons_cons | apply List.Sublist.cons)); done) | fail)) (g_assign rfl (.mk (v := .slice _ _ _) rfl rfl)) ?_
  refine WH.done (by decide +kernel) ?_
  rotate_left
  refine WC.seq fun K hK => ?_
  refine WC.seq fun K hK => ?_
  refine WC.region rfl ?_
  refine wMS rfl rfl rfl rfl rfl ?_
  refine wG rfl rfl (g_len rfl (.mk rfl rfl) rfl) ?_
  refine wMI rfl rfl rfl rfl rfl ?_
  refine WL.nil (hK _ _ ?_); clear hK
  refine WC.block ?_
  rotate_left
  · exact ⟨(b21, b23), (by repeat (first | exact trivial | refine ⟨rfl, ?_⟩)), by rw [← hz1, ← hb1]; exact Imp.pick (by repeat (first | exact .head | apply Take.tail)) (Imp.pick (by repeat (first | exact .head | apply Take.tail)) (Imp.nil _)), trivial⟩
  · exact ⟨(b21, b23), (by repeat (first | exact trivial | refine ⟨rfl, ?_⟩)), by rw [← hz1, ← hb1]; exact Imp.pick (by repeat (first | exact .head | apply Take.tail)) (Imp.pick (by repeat (first | exact .head | apply Take.tail)) (Imp.nil _)), trivial⟩
  obtain ⟨bp, bb⟩ := q
  dsimp only
  clear hz1 hb1 hr0
  
  refine WC.loopF (fun k : Nat => [(26, iv k), (25, iv ((N + 3 : Nat) : Int)), (8, .slice (some ⟨bp, 0, none⟩) (N + 3) (N + 3)), (9, .slice (some ⟨bb, 0, none⟩) (N + 3) (N + 3)), (0, iv ((N + 3 : Nat) : Int)), (1, .slice A R.length c), (2, .slice B O.length d)]) (fun k => [vec (some ⟨bp, 0, none⟩) (N + 3) (N + 3) 41 8 (kvs (rsP (N + 3) O (nats R) 0)), vec (some ⟨bb, 0, none⟩) (N + 3) (N + 3) 4 1 (bls (trB (N + 3) k))]) (fun k => k ≤ N + 3) (fun k => N + 3 - k) 0 (by repeat (first | exact trivial | refine ⟨rfl, ?_⟩)) (.refl _) (by omega) ?_
  intro k U hk
  by_cases hlt : k < N + 3
  · have hln : (bls (trB (N + 3) k)).length = N + 3 := by rw [bls_len, trB_len]
    have hst : (bls (trB (N + 3) k)).set (k * 1) (.bool true) = bls (trB (N + 3) (k + 1)) := by rw [bls_put (Nat.mul_one k), trB_set hlt]
    refine WC.seq fun K hK => ?_
    refine WC.region rfl ?_
    refine wG rfl rfl (g_lt rfl (.mk rfl rfl) (.mk rfl rfl) (decide_eq_true (by omega))) ?_
    refine WL.nil (hK _ _ ?_); clear hK
    refine WC.seq fun K hK => ?_
    refine WC.cond_true (.mk rfl rfl) ?_
    refine WC.skip ?_
    (refine hK _ _ ?_; clear hK)
    refine WC.seq fun K hK => ?_
    refine WC.block ?_
    refine WC.seq fun K hK => ?_
    refine WC.region rfl ?_
    refine wMI rfl rfl rfl rfl rfl ?_
    refine wAI rfl rfl rfl rfl rfl ?_
    refine WL.nil (hK _ _ ?_); clear hK
    refine WC.region rfl ?_
    refine wMS rfl rfl rfl rfl rfl ?_
    refine wMI rfl rfl rfl rfl rfl ?_
    refine wG rfl rfl (g_indexAddr (sz := 1) rfl (.mk rfl rfl) (.mk rfl rfl) rfl rfl rfl (by omega) (fun _ _ => rfl)) ?_
    refine WL.want rfl (WL1.storeV1 rfl rfl (.mk rfl rfl) (.mk (v := .bool _) rfl rfl) rfl rfl (by first | omega | (simp; done) | (simp; omega)) (.tail (.head)) ?_)
    refine WL.nil (hK _ _ ?_); clear hK
    refine WC.region rfl ?_
    refine wG rfl rfl (g_add rfl (.mk rfl rfl) (.mk rfl rfl) (IntWalk.i64_in _ (by omega))) ?_
    refine wMI rfl rfl rfl rfl rfl ?_
    refine WL.nil ?_
    exact ⟨k + 1, (by repeat (first | exact trivial | refine ⟨rfl, ?_⟩)), by rw [hst]; exact .refl _, by omega, by omega⟩
  · obtain rfl : k = N + 3 := by omega
    rw [trB_all N (nats R)]
    refine WC.seq fun K hK => ?_
    refine WC.region rfl ?_
    refine wG rfl rfl (g_lt rfl (.mk rfl rfl) (.mk rfl rfl) (decide_eq_false (by omega))) ?_
    refine WL.nil (hK _ _ ?_); clear hK
    refine WC.seq fun K hK => ?_
    refine WC.cond_false (.mk rfl rfl) ?_
    refine WC.exit ?_
    (clear hK; refine hK _ _ ?_; clear hK)
    refine WC.seq fun K hK => ?_
    refine WC.seq fun K hK => ?_
    refine WC.region rfl ?_
    refine wMS rfl rfl rfl rfl rfl ?_
    refine wG rfl rfl (g_len rfl (.mk rfl rfl) rfl) ?_
    refine wMI rfl rfl rfl rfl rfl ?_
    refine WL.nil (hK _ _ ?_); clear hK
    refine WC.block ?_
    refine WC.loopF (fun i : Nat => [(35, iv i), (34, iv R.length), (33, .slice A R.length c), (8, .slice (some ⟨bp, 0, none⟩) (N + 3) (N + 3)), (9, .slice (some ⟨bb, 0, none⟩) (N + 3) (N + 3)), (0, iv ((N + 3 : Nat) : Int)), (1, .slice A R.length c), (2, .slice B O.length d)]) (fun i => [vec (some ⟨bp, 0, none⟩) (N + 3) (N + 3) 41 8 (kvs (rsP (N + 3) O (nats R) i)), vec (some ⟨bb, 0, none⟩) (N + 3) (N + 3) 4 1 (bls (frB N (nats R) i))]) (fun i => i ≤ R.length) (fun i => R.length - i) 0 (by repeat (first | exact trivial | refine ⟨rfl, ?_⟩)) (.refl _) (by omega) ?_
    intro i U2 hi
    by_cases hlt2 : i < R.length
    · have hgv := ivs_get (l := R) (k := i) hlt2
      obtain ⟨q1, q2, q3⟩ := hok i (by omega)
      obtain ⟨z, hz⟩ : ∃ z : Nat, nth R i = z := ⟨(nth R i).toNat, by omega⟩
      have hzN : nth (nats R) i = z := by rw [nth_nats hlt2, hz]; rfl
      have hln : (bls (frB N (nats R) i)).length = N + 3 := by rw [bls_len, frB_len]
      have hlk : (kvs (rsP (N + 3) O (nats R) i)).length = (N + 3) * 8 := by rw [kvs_len, rsP_len]
      have hrl := rsP_len (N + 3) O (nats R) i
      have gO : ∀ t u, (nth O i).cells[t]? = some u → (kvs O)[i * 8 + t]? = some u := fun t u h => flat_row blk8 (by omega) t u h
      have hs1 : (rsP (N + 3) O (nats R) i).set z (nth O i) = rsP (N + 3) O (nats R) (i + 1) := rsP_set hzN rfl
      have hs2 : (frB N (nats R) i).set z false = frB N (nats R) (i + 1) := frB_set hzN
      obtain ⟨y, hy⟩ : ∃ y, y = nth O i := ⟨_, rfl⟩
      rw [← hy] at gO hs1
      have hsp : spl (kvs (rsP (N + 3) O (nats R) i)) (z * 8) y.cells = kvs (rsP (N + 3) O (nats R) (i + 1)) := by rw [kvs_put (l := rsP (N + 3) O (nats R) i) (k := z) (b := y) (by omega) rfl rfl, hs1]
      have hsq : (bls (frB N (nats R) i)).set (z * 1) (.bool false) = bls (frB N (nats R) (i + 1)) := by rw [bls_put (Nat.mul_one z), hs2]
      rw [hz] at hgv q1 q2 q3
      clear hy hs1 hs2 hzN
      have hy8 := Blk.len y
      by_cases hi0 : i = 0
      · subst hi0
        refine WC.seq fun K hK => ?_
        refine WC.region rfl ?_
        refine wG rfl rfl (g_lt rfl (.mk rfl rfl) (.mk rfl rfl) (decide_eq_true (by omega))) ?_
        refine WL.nil (hK _ _ ?_); clear hK
        refine WC.seq fun K hK => ?_
        refine WC.cond_true (.mk rfl rfl) ?_
        refine WC.skip ?_
        (refine hK _ _ ?_; clear hK)
        refine WC.seq fun K hK => ?_
        refine WC.block ?_
        refine WC.seq fun K hK => ?_
        refine WC.region rfl ?_
        refine wMI rfl rfl rfl rfl rfl ?_
        refine wG rfl rfl (g_indexAddr (sz := 1) rfl (.mk rfl rfl) (.mk rfl rfl) rfl rfl (show _ = ((0 : Nat) : Int) from rfl) (by omega) (fun _ _ => sl_some hs (by omega))) ?_
        refine wG rfl rfl (g_load rfl (.mk rfl rfl) rfl (rd_sl hs hgv)) ?_
        refine wAI rfl rfl rfl rfl rfl ?_
        refine wAI rfl rfl rfl rfl rfl ?_
        refine WL.nil (hK _ _ ?_); clear hK
        refine WC.seq fun K hK => ?_
        refine WC.seq fun K hK => ?_
        refine WC.region rfl ?_
        refine wMI rfl rfl rfl rfl rfl ?_
        refine wG rfl rfl (g_lt rfl (.mk rfl rfl) (.mk rfl rfl) (decide_eq_false (by omega))) ?_
        refine wMB rfl rfl rfl rfl rfl ?_
        refine WL.wantG rfl rfl rfl rfl (WL1.give rfl (g_move rfl (.mk (v := .int _ _) rfl rfl)) ?_)
        refine WL.wantG rfl rfl rfl rfl (WL1.give rfl (g_move rfl (.mk (v := .int _ _) rfl rfl)) ?_)
        refine WL.wantG rfl rfl rfl rfl (WL1.give rfl (g_ge rfl (.mk rfl rfl) (.mk rfl rfl) (decide_eq_false (by omega))) ?_)
        refine wG rfl rfl (g_pickF rfl (.mk rfl rfl) (.mk (v := .bool _) rfl rfl)) ?_
        refine wMB rfl rfl rfl rfl rfl ?_
        refine WL.wantG rfl rfl rfl rfl (WL1.give rfl (g_move rfl (.mk (v := .int _ _) rfl rfl)) ?_)
        refine WL.wantG rfl rfl rfl rfl (WL1.give rfl (g_gt rfl (.mk rfl rfl) (.mk rfl rfl) (decide_eq_false (by omega))) ?_)
        refine WL.wantG rfl rfl rfl rfl (WL1.give rfl (g_move rfl (.mk (v := .bool _) rfl rfl)) ?_)
        refine WL.skipG rfl rfl rfl rfl rfl rfl ?_
        refine WL.skipG rfl rfl rfl rfl rfl rfl ?_
        refine WL.skipG rfl rfl rfl rfl rfl rfl ?_
        refine WL.skipG rfl rfl rfl rfl rfl rfl ?_
        refine WL.skipG rfl rfl rfl rfl rfl rfl ?_
        refine WL.skipG rfl rfl rfl rfl rfl rfl ?_
        refine WL.skipG rfl rfl rfl rfl rfl rfl ?_
        refine WL.wantG rfl rfl rfl rfl (WL1.give rfl (g_pickF rfl (.mk rfl rfl) (.mk (v := .bool _) rfl rfl)) ?_)
        refine wG rfl rfl (g_pickF rfl (.mk rfl rfl) (.mk (v := .bool _) rfl rfl)) ?_
        refine WL.nil (hK _ _ ?_); clear hK
        refine WC.cond_false (.mk rfl rfl) ?_
        refine WC.skip ?_
        (refine hK _ _ ?_; clear hK)
        refine WC.region rfl ?_
        refine wMS rfl rfl rfl rfl rfl ?_
        refine wMI rfl rfl rfl rfl rfl ?_
        refine wMS rfl rfl rfl rfl rfl ?_
        refine wMI rfl rfl rfl rfl rfl ?_
        refine wMS rfl rfl rfl rfl rfl ?_
        refine wMI rfl rfl rfl rfl rfl ?_
        refine wG rfl rfl (g_indexAddr (sz := 8) rfl (.mk rfl rfl) (.mk rfl rfl) rfl rfl (show _ = ((0 : Nat) : Int) from rfl) (by omega) (fun _ _ => sl_some hsb (by omega))) ?_
        refine wG rfl rfl (g_loadA rfl (.mk rfl rfl) rfl (sz8 _) (rdr_sl (cs := y.cells) hsb (by omega) gO)) ?_
        refine wG rfl rfl (g_indexAddr (sz := 8) rfl (.mk rfl rfl) (.mk rfl rfl) rfl rfl rfl (by omega) (fun _ _ => rfl)) ?_
        refine WL.want rfl (WL1.storeVA rfl rfl (.mk rfl rfl) (.mk rfl rfl) (sz8 _) (Blk.one _) (by first | decide | omega | exact Nat.le_of_ble_eq_true rfl | (simp; done) | (simp; omega) | (rw [Blk.len]; omega)) (by first | omega | (rw [Blk.len]; omega) | (simp; done) | (simp; omega)) (.head) ?_)
        refine wG rfl rfl (g_indexAddr (sz := 1) rfl (.mk rfl rfl) (.mk rfl rfl) rfl rfl rfl (by omega) (fun _ _ => rfl)) ?_
        refine WL.want rfl (WL1.storeV1 rfl rfl (.mk rfl rfl) (.mk (v := .bool _) rfl rfl) rfl rfl (by first | omega | (simp; done) | (simp; omega)) (.tail (.head)) ?_)
        refine WL.nil (hK _ _ ?_); clear hK
        refine WC.region rfl ?_
        refine wG rfl rfl (g_add rfl (.mk rfl rfl) (.mk rfl rfl) (IntWalk.i64_in _ (by omega))) ?_
        refine wMI rfl rfl rfl rfl rfl ?_
        refine WL.nil ?_
        exact ⟨0 + 1, (by repeat (first | exact trivial | refine ⟨rfl, ?_⟩)), by rw [← hsp, ← hsq]; exact Imp.pick (by repeat (first | exact .head | apply Take.tail)) (Imp.pick (by repeat (first | exact .head | apply Take.tail)) (Imp.nil _)), by omega, by omega⟩
      · have hsb1 : IntKind.i64.wrap ((i : Int) - 1) = ((i - 1 : Nat) : Int) := by rw [IntWalk.i64_in _ (by omega)]; omega
        have hgv2 := ivs_get (l := R) (k := i - 1) (by omega)
        have q4 := q3.resolve_left hi0
        refine WC.seq fun K hK => ?_
        refine WC.region rfl ?_
        refine wG rfl rfl (g_lt rfl (.mk rfl rfl) (.mk rfl rfl) (decide_eq_true (by omega))) ?_
        refine WL.nil (hK _ _ ?_); clear hK
        refine WC.seq fun K hK => ?_
        refine WC.cond_true (.mk rfl rfl) ?_
        refine WC.skip ?_
        (refine hK _ _ ?_; clear hK)
        refine WC.seq fun K hK => ?_
        refine WC.block ?_
        refine WC.seq fun K hK => ?_
        refine WC.region rfl ?_
        refine wMI rfl rfl rfl rfl rfl ?_
        refine wG rfl rfl (g_indexAddr (sz := 1) rfl (.mk rfl rfl) (.mk rfl rfl) rfl rfl rfl (by omega) (fun _ _ => sl_some hs (by omega))) ?_
        refine wG rfl rfl (g_load rfl (.mk rfl rfl) rfl (rd_sl hs hgv)) ?_
        refine wAI rfl rfl rfl rfl rfl ?_
        refine wAI rfl rfl rfl rfl rfl ?_
        refine WL.nil (hK _ _ ?_); clear hK
        refine WC.seq fun K hK => ?_
        refine WC.seq fun K hK => ?_
        refine WC.region rfl ?_
        refine wMI rfl rfl rfl rfl rfl ?_
        refine wG rfl rfl (g_lt rfl (.mk rfl rfl) (.mk rfl rfl) (decide_eq_false (by omega))) ?_
        refine wMB rfl rfl rfl rfl rfl ?_
        refine WL.wantG rfl rfl rfl rfl (WL1.give rfl (g_move rfl (.mk (v := .int _ _) rfl rfl)) ?_)
        refine WL.wantG rfl rfl rfl rfl (WL1.give rfl (g_move rfl (.mk (v := .int _ _) rfl rfl)) ?_)
        refine WL.wantG rfl rfl rfl rfl (WL1.give rfl (g_ge rfl (.mk rfl rfl) (.mk rfl rfl) (decide_eq_false (by omega))) ?_)
        refine wG rfl rfl (g_pickF rfl (.mk rfl rfl) (.mk (v := .bool _) rfl rfl)) ?_
        refine wMB rfl rfl rfl rfl rfl ?_
        refine WL.wantG rfl rfl rfl rfl (WL1.give rfl (g_move rfl (.mk (v := .int _ _) rfl rfl)) ?_)
        refine WL.wantG rfl rfl rfl rfl (WL1.give rfl (g_gt rfl (.mk rfl rfl) (.mk rfl rfl) (decide_eq_true (by omega))) ?_)
        refine WL.wantG rfl rfl rfl rfl (WL1.give rfl (g_move rfl (.mk (v := .bool _) rfl rfl)) ?_)
        refine WL.wantG rfl rfl rfl rfl (WL1.give rfl (g_move rfl (.mk (v := .int _ _) rfl rfl)) ?_)
        refine WL.wantG rfl rfl rfl rfl (WL1.give rfl (g_move rfl (.mk (v := .slice _ _ _) rfl rfl)) ?_)
        refine WL.wantG rfl rfl rfl rfl (WL1.give rfl (g_move rfl (.mk (v := .int _ _) rfl rfl)) ?_)
        refine WL.wantG rfl rfl rfl rfl (WL1.give rfl (g_sub rfl (.mk rfl rfl) (.mk rfl rfl) hsb1) ?_)
        refine WL.wantG rfl rfl rfl rfl (WL1.give rfl (g_indexAddr (sz := 1) rfl (.mk rfl rfl) (.mk rfl rfl) rfl rfl rfl (by omega) (fun _ _ => sl_some hs (by omega))) ?_)
        refine WL.wantG rfl rfl rfl rfl (WL1.give rfl (g_load rfl (.mk rfl rfl) rfl (rd_sl hs hgv2)) ?_)
        refine WL.wantG rfl rfl rfl rfl (WL1.give rfl (g_le rfl (.mk rfl rfl) (.mk rfl rfl) (decide_eq_false (by omega))) ?_)
        refine WL.wantG rfl rfl rfl rfl (WL1.give rfl (g_pickT rfl (.mk rfl rfl) (.mk (v := .bool _) rfl rfl)) ?_)
        refine wG rfl rfl (g_pickF rfl (.mk rfl rfl) (.mk (v := .bool _) rfl rfl)) ?_
        refine WL.nil (hK _ _ ?_); clear hK
        refine WC.cond_false (.mk rfl rfl) ?_
        refine WC.skip ?_
        (refine hK _ _ ?_; clear hK)
        refine WC.region rfl ?_
        refine wMS rfl rfl rfl rfl rfl ?_
        refine wMI rfl rfl rfl rfl rfl ?_
        refine wMS rfl rfl rfl rfl rfl ?_
        refine wMI rfl rfl rfl rfl rfl ?_
        refine wMS rfl rfl rfl rfl rfl ?_
        refine wMI rfl rfl rfl rfl rfl ?_
        refine wG rfl rfl (g_indexAddr (sz := 8) rfl (.mk rfl rfl) (.mk rfl rfl) rfl rfl rfl (by omega) (fun _ _ => sl_some hsb (by omega))) ?_
        refine wG rfl rfl (g_loadA rfl (.mk rfl rfl) rfl (sz8 _) (rdr_sl (cs := y.cells) hsb (by omega) gO)) ?_
        refine wG rfl rfl (g_indexAddr (sz := 8) rfl (.mk rfl rfl) (.mk rfl rfl) rfl rfl rfl (by omega) (fun _ _ => rfl)) ?_
        refine WL.want rfl (WL1.storeVA rfl rfl (.mk rfl rfl) (.mk rfl rfl) (sz8 _) (Blk.one _) (by first | decide | omega | exact Nat.le_of_ble_eq_true rfl | (simp; done) | (simp; omega) | (rw [Blk.len]; omega)) (by first | omega | (rw [Blk.len]; omega) | (simp; done) | (simp; omega)) (.head) ?_)
        refine wG rfl rfl (g_indexAddr (sz := 1) rfl (.mk rfl rfl) (.mk rfl rfl) rfl rfl rfl (by omega) (fun _ _ => rfl)) ?_
        refine WL.want rfl (WL1.storeV1 rfl rfl (.mk rfl rfl) (.mk (v := .bool _) rfl rfl) rfl rfl (by first | omega | (simp; done) | (simp; omega)) (.tail (.head)) ?_)
        refine WL.nil (hK _ _ ?_); clear hK
        refine WC.region rfl ?_
        refine wG rfl rfl (g_add rfl (.mk rfl rfl) (.mk rfl rfl) (IntWalk.i64_in _ (by omega))) ?_
        refine wMI rfl rfl rfl rfl rfl ?_
        refine WL.nil ?_
        exact ⟨i + 1, (by repeat (first | exact trivial | refine ⟨rfl, ?_⟩)), by rw [← hsp, ← hsq]; exact Imp.pick (by repeat (first | exact .head | apply Take.tail)) (Imp.pick (by repeat (first | exact .head | apply Take.tail)) (Imp.nil _)), by omega, by omega⟩
    · obtain rfl : i = R.length := by omega
      have hcn := frB_cnt (N := N) (R := R) (fun j hj => hok j (by omega)) R.length (Nat.le_refl _)
      obtain ⟨qs, hqs⟩ : ∃ qs, qs = decL (rsP (N + 3) O (nats R) R.length) (frB N (nats R) R.length) N := ⟨_, rfl⟩
      have hfr : frD N O R = qs.take N := by rw [hqs]; rfl
      have hdec := fun w v1 v2 h1 h2 => decode_k (w := w) (vp := v1) (vb := v2) (n := N) (m := N + 3) rfl hN1 hN2 (rsP_len (N + 3) O (nats R) R.length) (frB_len N (nats R) R.length) (by omega) hqs.symm h1 h2
      clear hqs hcn hok hs hsb
      refine WC.seq fun K hK => ?_
      refine WC.region rfl ?_
      refine wG rfl rfl (g_lt rfl (.mk rfl rfl) (.mk rfl rfl) (decide_eq_false (by omega))) ?_
      refine WL.nil (hK _ _ ?_); clear hK
      refine WC.seq fun K hK => ?_
      refine WC.cond_false (.mk rfl rfl) ?_
      refine WC.exit ?_
      (clear hK; refine hK _ _ ?_; clear hK)
      refine WC.seq fun K hK => ?_
      refine WC.region rfl ?_
      refine wMS rfl rfl rfl rfl rfl ?_
      refine wMS rfl rfl rfl rfl rfl ?_
      (refine WL.want rfl (WL1.callN rfl rfl rfl (.cons (.mk (v := .slice _ _ _) rfl rfl) (.cons (.mk (v := .slice _ _ _) rfl rfl) .nil)) (fun w hw => hdec w _ _ (Sl.of_vec hw (by first | ((repeat (first | exact .head _ | apply List.Mem.tail)); done) | fail)) (Sl.of_vec hw (by first | ((repeat (first | exact .head _ | apply List.Mem.tail)); done) | fail))) ?_); rintro _ _ ⟨Aq, cq, rfl, rfl⟩)
      refine wG rfl rfl (g_move rfl (.mk (v := .tuple _) rfl rfl)) ?_
      refine wG rfl rfl (g_extract rfl (.mk rfl rfl) rfl) ?_
      refine wG rfl rfl (g_extract rfl (.mk rfl rfl) rfl) ?_
      refine wAS rfl rfl rfl rfl rfl ?_
      refine wAI rfl rfl rfl rfl rfl ?_
      refine WL.nil (hK _ _ ?_); clear hK
      refine WC.seq fun K hK => ?_
      refine WC.seq fun K hK => ?_
      refine WC.region rfl ?_
      refine wMI rfl rfl rfl rfl rfl ?_
      refine wG rfl rfl (g_ne rfl (.mk rfl rfl) (.mk rfl rfl) (decide_eq_false (by omega))) ?_
      refine WL.nil (hK _ _ ?_); clear hK
      refine WC.cond_false (.mk rfl rfl) ?_
      refine WC.skip ?_
      (refine hK _ _ ?_; clear hK)
      refine WC.seq fun K hK => ?_
      refine WC.region rfl ?_
      refine wMS rfl rfl rfl rfl rfl ?_
      refine wMI rfl rfl rfl rfl rfl ?_
      refine wG rfl rfl (g_sub rfl (.mk rfl rfl) (.mk rfl rfl) hsub) ?_
      refine wG rfl rfl (g_sliceC (sz := 8) (kl := .i64) (p := 0) rfl (.mk rfl rfl) rfl rfl rfl ⟨(.mk rfl rfl), rfl⟩ (by omega) (fun w hw => Nat.le_trans (by omega) (vec_cap hw (.head _)))) ?_
      refine wAS rfl rfl rfl rfl rfl ?_
      refine wAB rfl rfl rfl rfl rfl ?_
      refine WL.nil (hK _ _ ?_); clear hK
      refine WC.ret ?_
      refine fun w' hw' => ?_
      have hx := Imp.h (Imp.pick (A := vec Aq (N + 3) cq 41 8 (kvs qs)) (by repeat (first | exact .head | apply Take.tail)) (Imp.nil _)) hw'
      obtain ⟨g, rfl⟩ := vec_at hx (.head _) (by omega)
      refine ⟨_, [vec (some ⟨g, 0, none⟩) N cq 41 8 (kvs (qs.take N))], rfl, ?_, some ⟨g, 0, none⟩, cq, ?_, by rw [hfr]⟩
      · rw [← kvs_take]
        exact Imp.h (Imp.prefix_ _ (by omega)) hx
      · show Value.tuple #[.slice (subA (some ⟨g, 0, none⟩) cq 0 8) (N - 0) (cq - 0), .bool true] = _
        rw [subA_zero]; rfl
set_option maxHeartbeats 4000000 in
theorem gfrom_bad (hN1 : 1 ≤ N) (hN2 : N ≤ 13) (hRO : R.length = O.length) (hbad : ¬ (R.length = N ∧ ∀ i, i < N → okR (N + 3) R i)) (hR40 : R.length ≤ 1000) (hs : Sl w 1 (.slice A R.length c) R.length (ivs R)) (hsb : Sl w 8 (.slice B O.length d) O.length (kvs O)) :
    Calls Tryz.prog 54 #[iv ((N + 3 : Nat) : Int), .slice A R.length c, .slice B O.length d] w fun e w' => e = .returned (.tuple #[.slice none 0 0, .bool false]) ∧ Below w.heap.size w w' := by
  have hsub : IntKind.i64.wrap (((N + 3 : Nat) : Int) - 3) = (N : Int) := by rw [IntWalk.i64_in _ (by omega)]; omega
  by_cases hR : R.length = N
  · have hz1 := zeros_made (N + 3)
    have hb1 := bls_made (N + 3)
    rw [trB_zero] at hb1
    have hr0 : kvs (List.replicate (N + 3) 0) = kvs (rsP (N + 3) O (nats R) 0) := rfl
    rw [hr0] at hz1
    have hRl : (R.length : Int) = N := by omega
    have hok : ¬ ∀ i, i < N → okR (N + 3) R i := fun h => hbad ⟨hR, h⟩
    refine calls_wc (args := [iv ((N + 3 : Nat) : Int), .slice A R.length c, .slice B O.length d]) [6, 7] [] Tryz.func54 rfl Tryz.ntmps54 rfl rfl rfl rfl (H.refl _) ?_
    refine WC.seq fun K hK => ?_
    refine WC.region rfl ?_
    refine wAS rfl rfl rfl rfl rfl ?_
    refine wAB rfl rfl rfl rfl rfl ?_
    refine WL.nil (hK _ _ ?_); clear hK
    refine WC.seq fun K hK => ?_
    refine WC.seq fun K hK => ?_
    refine WC.region rfl ?_
    refine wMS rfl rfl rfl rfl rfl ?_
    refine wG rfl rfl (g_len rfl (.mk rfl rfl) rfl) ?_
    refine wMI rfl rfl rfl rfl rfl ?_
    refine wG rfl rfl (g_sub rfl (.mk rfl rfl) (.mk rfl rfl) hsub) ?_
    refine wG rfl rfl (g_ne rfl (.mk rfl rfl) (.mk rfl rfl) (decide_eq_false (by omega))) ?_
    refine WL.nil (hK _ _ ?_); clear hK
    refine WC.cond_false (.mk rfl rfl) ?_
    refine WC.skip ?_
    (refine hK _ _ ?_; clear hK)
    refine WC.seqF (fun q : Nat × Nat => [(8, .slice (some ⟨q.1, 0, none⟩) (N + 3) (N + 3)), (9, .slice (some ⟨q.2, 0, none⟩) (N + 3) (N + 3)), (0, iv ((N + 3 : Nat) : Int)), (1, .slice A R.length c), (2, .slice B O.length d)]) (fun q => [vec (some ⟨q.1, 0, none⟩) (N + 3) (N + 3) 41 8 (kvs (rsP (N + 3) O (nats R) 0)), vec (some ⟨q.2, 0, none⟩) (N + 3) (N + 3) 4 1 (bls (trB (N + 3) 0))]) (fun _ => True) ?_ (fun q U _ => ?_)
    refine WC.held [] rfl (by kernel_rfl) ?_
    refine WH.take 0 rfl (by decide +kernel) (by decide +kernel) (by decide +kernel) rfl rfl (Imp.sub (by first | ((repeat (first | exact List.nil_sublist _ | exact List.Sublist.refl _ | apply List.Sublist.cons_cons | apply List.Sublist.cons)); done) | fail)) (g_move rfl (.mk (v := .int _ _) rfl rfl)) ?_
    refine WH.take 2 rfl (by decide +kernel) (by decide +kernel) (by decide +kernel) rfl rfl (Imp.sub (by first | ((repeat (first | exact List.nil_sublist _ | exact List.Sublist.refl _ | apply List.Sublist.cons_cons | apply List.Sublist.cons)); done) | fail)) (g_move rfl (.mk (v := .int _ _) rfl rfl)) ?_
    refine WH.two 1 3 (by decide +kernel) rfl rfl rfl rfl ?_ ?_
    refine WL1.make elK rfl rfl (.mk rfl rfl) (.mk rfl rfl) rfl rfl (by omega) (by unfold maxLen; omega) (fun b21 => ?_)
    refine WL.nil ?_
    refine ⟨(Imp.sub (by first | ((repeat (first | exact List.nil_sublist _ | exact List.Sublist.refl _ | apply List.Sublist.cons_cons | apply List.Sublist.cons)); done) | fail)), ?_⟩
    refine WH.take 4 rfl (by decide +kernel) (by decide +kernel) (by decide +kernel) rfl rfl (Imp.sub (by first | ((repeat (first | exact List.nil_sublist _ | exact List.Sublist.refl _ | apply List.Sublist.cons_cons | apply List.Sublist.cons)); done) | fail)) (g_assign rfl (.mk (v := .slice _ _ _) rfl rfl)) ?_
    refine WH.one 3 (by decide +kernel) rfl rfl ?_
    refine WL1.make elBo rfl rfl (.mk rfl rfl) (.mk rfl rfl) rfl rfl (by omega) (by unfold maxLen; omega) (fun b23 => ?_)
    refine WL.nil ?_
    refine ⟨(Imp.sub (by first | ((repeat (first | exact List.nil_sublist _ | exact List.Sublist.refl _ | apply List.Sublist.cons_cons | apply List.Sublist.cons)); done) | fail)), ?_⟩
    refine WH.take 5 rfl (by decide +kernel) (by decide +kernel) (by decide +kernel) rfl rfl (Imp.sub (by first | ((repeat (first | exact List.nil_sublist _ | exact List.Sublist.refl _ | apply List.Sublist.cons_cons | apply List.Sublist.cons)); done) | fail)) (g_assign rfl (.mk (v := .slice _ _ _) rfl rfl)) ?_
    refine WH.done (by decide +kernel) ?_
    rotate_left
    refine WL1.make elBo rfl rfl (.mk rfl rfl) (.mk rfl rfl) rfl rfl (by omega) (by unfold maxLen; omega) (fun b23 => ?_)
    refine WL.nil ?_
    refine ⟨(Imp.sub (by first | ((repeat (first | exact List.nil_sublist _ | exact List.Sublist.refl _ | apply List.Sublist.cons_cons | apply List.Sublist.cons)); done) | fail)), ?_⟩
    refine WH.one 1 (by decide +kernel) rfl rfl ?_
    refine WL1.make elK rfl rfl (.mk rfl rfl) (.mk rfl rfl) rfl rfl (by omega) (by unfold maxLen; omega) (fun b21 => ?_)
    refine WL.nil ?_
    refine ⟨(Imp.sub (by first | ((repeat (first | exact List.nil_sublist _ | exact List.Sublist.refl _ | apply List.Sublist.cons_cons | apply List.Sublist.cons)); done) | fail)), ?_⟩
    refine WH.take 4 rfl (by decide +kernel) (by decide +kernel) (by decide +kernel) rfl rfl (Imp.sub (by first | ((repeat (first | exact List.nil_sublist _ | exact List.Sublist.refl _ | apply List.Sublist.cons_cons | apply List.Sublist.cons)); done) | fail)) (g_assign rfl (.mk (v := .slice _ _ _) rfl rfl)) ?_
    refine WH.take 5 rfl (by decide +kernel) (by decide +kernel) (by decide +kernel) rfl rfl (Imp.sub (by first | ((repeat (first | exact List.nil_sublist _ | exact List.Sublist.refl _ | apply List.Sublist.cons_cons | apply List.Sublist.cons)); done) | fail)) (g_assign rfl (.mk (v := .slice _ _ _) rfl rfl)) ?_
    refine WH.done (by decide +kernel) ?_
    rotate_left
    refine WC.seq fun K hK => ?_
    refine WC.seq fun K hK => ?_
    refine WC.region rfl ?_
    refine wMS rfl rfl rfl rfl rfl ?_
    refine wG rfl rfl (g_len rfl (.mk rfl rfl) rfl) ?_
    refine wMI rfl rfl rfl rfl rfl ?_
    refine WL.nil (hK _ _ ?_); clear hK
    refine WC.block ?_
    rotate_left
    · exact ⟨(b21, b23), (by repeat (first | exact trivial | refine ⟨rfl, ?_⟩)), by rw [← hz1, ← hb1]; exact Imp.pick (by repeat (first | exact .head | apply Take.tail)) (Imp.pick (by repeat (first | exact .head | apply Take.tail)) (Imp.nil _)), trivial⟩
    · exact ⟨(b21, b23), (by repeat (first | exact trivial | refine ⟨rfl, ?_⟩)), by rw [← hz1, ← hb1]; exact Imp.pick (by repeat (first | exact .head | apply Take.tail)) (Imp.pick (by repeat (first | exact .head | apply Take.tail)) (Imp.nil _)), trivial⟩
    obtain ⟨bp, bb⟩ := q
    dsimp only
    clear hz1 hb1 hr0
    
    refine WC.loopF (fun k : Nat => [(26, iv k), (25, iv ((N + 3 : Nat) : Int)), (8, .slice (some ⟨bp, 0, none⟩) (N + 3) (N + 3)), (9, .slice (some ⟨bb, 0, none⟩) (N + 3) (N + 3)), (0, iv ((N + 3 : Nat) : Int)), (1, .slice A R.length c), (2, .slice B O.length d)]) (fun k => [vec (some ⟨bp, 0, none⟩) (N + 3) (N + 3) 41 8 (kvs (rsP (N + 3) O (nats R) 0)), vec (some ⟨bb, 0, none⟩) (N + 3) (N + 3) 4 1 (bls (trB (N + 3) k))]) (fun k => k ≤ N + 3) (fun k => N + 3 - k) 0 (by repeat (first | exact trivial | refine ⟨rfl, ?_⟩)) (.refl _) (by omega) ?_
    intro k U hk
    by_cases hlt : k < N + 3
    · have hln : (bls (trB (N + 3) k)).length = N + 3 := by rw [bls_len, trB_len]
      have hst : (bls (trB (N + 3) k)).set (k * 1) (.bool true) = bls (trB (N + 3) (k + 1)) := by rw [bls_put (Nat.mul_one k), trB_set hlt]
      refine WC.seq fun K hK => ?_
      refine WC.region rfl ?_
      refine wG rfl rfl (g_lt rfl (.mk rfl rfl) (.mk rfl rfl) (decide_eq_true (by omega))) ?_
      refine WL.nil (hK _ _ ?_); clear hK
      refine WC.seq fun K hK => ?_
      refine WC.cond_true (.mk rfl rfl) ?_
      refine WC.skip ?_
      (refine hK _ _ ?_; clear hK)
      refine WC.seq fun K hK => ?_
      refine WC.block ?_
      refine WC.seq fun K hK => ?_
      refine WC.region rfl ?_
      refine wMI rfl rfl rfl rfl rfl ?_
      refine wAI rfl rfl rfl rfl rfl ?_
      refine WL.nil (hK _ _ ?_); clear hK
      refine WC.region rfl ?_
      refine wMS rfl rfl rfl rfl rfl ?_
      refine wMI rfl rfl rfl rfl rfl ?_
      refine wG rfl rfl (g_indexAddr (sz := 1) rfl (.mk rfl rfl) (.mk rfl rfl) rfl rfl rfl (by omega) (fun _ _ => rfl)) ?_
      refine WL.want rfl (WL1.storeV1 rfl rfl (.mk rfl rfl) (.mk (v := .bool _) rfl rfl) rfl rfl (by first | omega | (simp; done) | (simp; omega)) (.tail (.head)) ?_)
      refine WL.nil (hK _ _ ?_); clear hK
      refine WC.region rfl ?_
      refine wG rfl rfl (g_add rfl (.mk rfl rfl) (.mk rfl rfl) (IntWalk.i64_in _ (by omega))) ?_
      refine wMI rfl rfl rfl rfl rfl ?_
      refine WL.nil ?_
      exact ⟨k + 1, (by repeat (first | exact trivial | refine ⟨rfl, ?_⟩)), by rw [hst]; exact .refl _, by omega, by omega⟩
    · obtain rfl : k = N + 3 := by omega
      rw [trB_all N (nats R)]
      refine WC.seq fun K hK => ?_
      refine WC.region rfl ?_
      refine wG rfl rfl (g_lt rfl (.mk rfl rfl) (.mk rfl rfl) (decide_eq_false (by omega))) ?_
      refine WL.nil (hK _ _ ?_); clear hK
      refine WC.seq fun K hK => ?_
      refine WC.cond_false (.mk rfl rfl) ?_
      refine WC.exit ?_
      (clear hK; refine hK _ _ ?_; clear hK)
      refine WC.seq fun K hK => ?_
      refine WC.seq fun K hK => ?_
      refine WC.region rfl ?_
      refine wMS rfl rfl rfl rfl rfl ?_
      refine wG rfl rfl (g_len rfl (.mk rfl rfl) rfl) ?_
      refine wMI rfl rfl rfl rfl rfl ?_
      refine WL.nil (hK _ _ ?_); clear hK
      refine WC.block ?_
      refine WC.loopF (fun i : Nat => [(35, iv i), (34, iv R.length), (33, .slice A R.length c), (8, .slice (some ⟨bp, 0, none⟩) (N + 3) (N + 3)), (9, .slice (some ⟨bb, 0, none⟩) (N + 3) (N + 3)), (0, iv ((N + 3 : Nat) : Int)), (1, .slice A R.length c), (2, .slice B O.length d)]) (fun i => [vec (some ⟨bp, 0, none⟩) (N + 3) (N + 3) 41 8 (kvs (rsP (N + 3) O (nats R) i)), vec (some ⟨bb, 0, none⟩) (N + 3) (N + 3) 4 1 (bls (frB N (nats R) i))]) (fun i => i ≤ R.length ∧ ∀ j, j < i → okR (N + 3) R j) (fun i => R.length - i) 0 (by repeat (first | exact trivial | refine ⟨rfl, ?_⟩)) (.refl _) ⟨by omega, fun j hj => absurd hj (Nat.not_lt_zero j)⟩ ?_
      rintro i U2 ⟨hi, hpr⟩
      by_cases hlt2 : i < R.length
      · have hgv := ivs_get (l := R) (k := i) hlt2
        by_cases hoi : okR (N + 3) R i
        · have hpr2 : ∀ j, j < i + 1 → okR (N + 3) R j := fun j hj => if e : j = i then e ▸ hoi else hpr j (by omega)
          obtain ⟨q1, q2, q3⟩ := hoi
          obtain ⟨z, hz⟩ : ∃ z : Nat, nth R i = z := ⟨(nth R i).toNat, by omega⟩
          have hzN : nth (nats R) i = z := by rw [nth_nats hlt2, hz]; rfl
          have hln : (bls (frB N (nats R) i)).length = N + 3 := by rw [bls_len, frB_len]
          have hlk : (kvs (rsP (N + 3) O (nats R) i)).length = (N + 3) * 8 := by rw [kvs_len, rsP_len]
          have hrl := rsP_len (N + 3) O (nats R) i
          have gO : ∀ t u, (nth O i).cells[t]? = some u → (kvs O)[i * 8 + t]? = some u := fun t u h => flat_row blk8 (by omega) t u h
          have hs1 : (rsP (N + 3) O (nats R) i).set z (nth O i) = rsP (N + 3) O (nats R) (i + 1) := rsP_set hzN rfl
          have hs2 : (frB N (nats R) i).set z false = frB N (nats R) (i + 1) := frB_set hzN
          obtain ⟨y, hy⟩ : ∃ y, y = nth O i := ⟨_, rfl⟩
          rw [← hy] at gO hs1
          have hsp : spl (kvs (rsP (N + 3) O (nats R) i)) (z * 8) y.cells = kvs (rsP (N + 3) O (nats R) (i + 1)) := by rw [kvs_put (l := rsP (N + 3) O (nats R) i) (k := z) (b := y) (by omega) rfl rfl, hs1]
          have hsq : (bls (frB N (nats R) i)).set (z * 1) (.bool false) = bls (frB N (nats R) (i + 1)) := by rw [bls_put (Nat.mul_one z), hs2]
          rw [hz] at hgv q1 q2 q3
          clear hy hs1 hs2 hzN hpr
          have hy8 := Blk.len y
          by_cases hi0 : i = 0
          · subst hi0
            refine WC.seq fun K hK => ?_
            refine WC.region rfl ?_
            refine wG rfl rfl (g_lt rfl (.mk rfl rfl) (.mk rfl rfl) (decide_eq_true (by omega))) ?_
            refine WL.nil (hK _ _ ?_); clear hK
            refine WC.seq fun K hK => ?_
            refine WC.cond_true (.mk rfl rfl) ?_
            refine WC.skip ?_
            (refine hK _ _ ?_; clear hK)
            refine WC.seq fun K hK => ?_
            refine WC.block ?_
            refine WC.seq fun K hK => ?_
            refine WC.region rfl ?_
            refine wMI rfl rfl rfl rfl rfl ?_
            refine wG rfl rfl (g_indexAddr (sz := 1) rfl (.mk rfl rfl) (.mk rfl rfl) rfl rfl (show _ = ((0 : Nat) : Int) from rfl) (by omega) (fun _ _ => sl_some hs (by omega))) ?_
            refine wG rfl rfl (g_load rfl (.mk rfl rfl) rfl (rd_sl hs hgv)) ?_
            refine wAI rfl rfl rfl rfl rfl ?_
            refine wAI rfl rfl rfl rfl rfl ?_
            refine WL.nil (hK _ _ ?_); clear hK
            refine WC.seq fun K hK => ?_
            refine WC.seq fun K hK => ?_
            refine WC.region rfl ?_
            refine wMI rfl rfl rfl rfl rfl ?_
            refine wG rfl rfl (g_lt rfl (.mk rfl rfl) (.mk rfl rfl) (decide_eq_false (by omega))) ?_
            refine wMB rfl rfl rfl rfl rfl ?_
            refine WL.wantG rfl rfl rfl rfl (WL1.give rfl (g_move rfl (.mk (v := .int _ _) rfl rfl)) ?_)
            refine WL.wantG rfl rfl rfl rfl (WL1.give rfl (g_move rfl (.mk (v := .int _ _) rfl rfl)) ?_)
            refine WL.wantG rfl rfl rfl rfl (WL1.give rfl (g_ge rfl (.mk rfl rfl) (.mk rfl rfl) (decide_eq_false (by omega))) ?_)
            refine wG rfl rfl (g_pickF rfl (.mk rfl rfl) (.mk (v := .bool _) rfl rfl)) ?_
            refine wMB rfl rfl rfl rfl rfl ?_
            refine WL.wantG rfl rfl rfl rfl (WL1.give rfl (g_move rfl (.mk (v := .int _ _) rfl rfl)) ?_)
            refine WL.wantG rfl rfl rfl rfl (WL1.give rfl (g_gt rfl (.mk rfl rfl) (.mk rfl rfl) (decide_eq_false (by omega))) ?_)
            refine WL.wantG rfl rfl rfl rfl (WL1.give rfl (g_move rfl (.mk (v := .bool _) rfl rfl)) ?_)
            refine WL.skipG rfl rfl rfl rfl rfl rfl ?_
            refine WL.skipG rfl rfl rfl rfl rfl rfl ?_
            refine WL.skipG rfl rfl rfl rfl rfl rfl ?_
            refine WL.skipG rfl rfl rfl rfl rfl rfl ?_
            refine WL.skipG rfl rfl rfl rfl rfl rfl ?_
            refine WL.skipG rfl rfl rfl rfl rfl rfl ?_
            refine WL.skipG rfl rfl rfl rfl rfl rfl ?_
            refine WL.wantG rfl rfl rfl rfl (WL1.give rfl (g_pickF rfl (.mk rfl rfl) (.mk (v := .bool _) rfl rfl)) ?_)
            refine wG rfl rfl (g_pickF rfl (.mk rfl rfl) (.mk (v := .bool _) rfl rfl)) ?_
            refine WL.nil (hK _ _ ?_); clear hK
            refine WC.cond_false (.mk rfl rfl) ?_
            refine WC.skip ?_
            (refine hK _ _ ?_; clear hK)
            refine WC.region rfl ?_
            refine wMS rfl rfl rfl rfl rfl ?_
            refine wMI rfl rfl rfl rfl rfl ?_
            refine wMS rfl rfl rfl rfl rfl ?_
            refine wMI rfl rfl rfl rfl rfl ?_
            refine wMS rfl rfl rfl rfl rfl ?_
            refine wMI rfl rfl rfl rfl rfl ?_
            refine wG rfl rfl (g_indexAddr (sz := 8) rfl (.mk rfl rfl) (.mk rfl rfl) rfl rfl (show _ = ((0 : Nat) : Int) from rfl) (by omega) (fun _ _ => sl_some hsb (by omega))) ?_
            refine wG rfl rfl (g_loadA rfl (.mk rfl rfl) rfl (sz8 _) (rdr_sl (cs := y.cells) hsb (by omega) gO)) ?_
            refine wG rfl rfl (g_indexAddr (sz := 8) rfl (.mk rfl rfl) (.mk rfl rfl) rfl rfl rfl (by omega) (fun _ _ => rfl)) ?_
            refine WL.want rfl (WL1.storeVA rfl rfl (.mk rfl rfl) (.mk rfl rfl) (sz8 _) (Blk.one _) (by first | decide | omega | exact Nat.le_of_ble_eq_true rfl | (simp; done) | (simp; omega) | (rw [Blk.len]; omega)) (by first | omega | (rw [Blk.len]; omega) | (simp; done) | (simp; omega)) (.head) ?_)
            refine wG rfl rfl (g_indexAddr (sz := 1) rfl (.mk rfl rfl) (.mk rfl rfl) rfl rfl rfl (by omega) (fun _ _ => rfl)) ?_
            refine WL.want rfl (WL1.storeV1 rfl rfl (.mk rfl rfl) (.mk (v := .bool _) rfl rfl) rfl rfl (by first | omega | (simp; done) | (simp; omega)) (.tail (.head)) ?_)
            refine WL.nil (hK _ _ ?_); clear hK
            refine WC.region rfl ?_
            refine wG rfl rfl (g_add rfl (.mk rfl rfl) (.mk rfl rfl) (IntWalk.i64_in _ (by omega))) ?_
            refine wMI rfl rfl rfl rfl rfl ?_
            refine WL.nil ?_
            exact ⟨0 + 1, (by repeat (first | exact trivial | refine ⟨rfl, ?_⟩)), by rw [← hsp, ← hsq]; exact Imp.pick (by repeat (first | exact .head | apply Take.tail)) (Imp.pick (by repeat (first | exact .head | apply Take.tail)) (Imp.nil _)), ⟨by omega, hpr2⟩, by omega⟩
          · have hsb1 : IntKind.i64.wrap ((i : Int) - 1) = ((i - 1 : Nat) : Int) := by rw [IntWalk.i64_in _ (by omega)]; omega
            have hgv2 := ivs_get (l := R) (k := i - 1) (by omega)
            have q4 := q3.resolve_left hi0
            refine WC.seq fun K hK => ?_
            refine WC.region rfl ?_
            refine wG rfl rfl (g_lt rfl (.mk rfl rfl) (.mk rfl rfl) (decide_eq_true (by omega))) ?_
            refine WL.nil (hK _ _ ?_); clear hK
            refine WC.seq fun K hK => ?_
            refine WC.cond_true (.mk rfl rfl) ?_
            refine WC.skip ?_
            (refine hK _ _ ?_; clear hK)
            refine WC.seq fun K hK => ?_
            refine WC.block ?_
            refine WC.seq fun K hK => ?_
            refine WC.region rfl ?_
            refine wMI rfl rfl rfl rfl rfl ?_
            refine wG rfl rfl (g_indexAddr (sz := 1) rfl (.mk rfl rfl) (.mk rfl rfl) rfl rfl rfl (by omega) (fun _ _ => sl_some hs (by omega))) ?_
            refine wG rfl rfl (g_load rfl (.mk rfl rfl) rfl (rd_sl hs hgv)) ?_
            refine wAI rfl rfl rfl rfl rfl ?_
            refine wAI rfl rfl rfl rfl rfl ?_
            refine WL.nil (hK _ _ ?_); clear hK
            refine WC.seq fun K hK => ?_
            refine WC.seq fun K hK => ?_
            refine WC.region rfl ?_
            refine wMI rfl rfl rfl rfl rfl ?_
            refine wG rfl rfl (g_lt rfl (.mk rfl rfl) (.mk rfl rfl) (decide_eq_false (by omega))) ?_
            refine wMB rfl rfl rfl rfl rfl ?_
            refine WL.wantG rfl rfl rfl rfl (WL1.give rfl (g_move rfl (.mk (v := .int _ _) rfl rfl)) ?_)
            refine WL.wantG rfl rfl rfl rfl (WL1.give rfl (g_move rfl (.mk (v := .int _ _) rfl rfl)) ?_)
            refine WL.wantG rfl rfl rfl rfl (WL1.give rfl (g_ge rfl (.mk rfl rfl) (.mk rfl rfl) (decide_eq_false (by omega))) ?_)
            refine wG rfl rfl (g_pickF rfl (.mk rfl rfl) (.mk (v := .bool _) rfl rfl)) ?_
            refine wMB rfl rfl rfl rfl rfl ?_
            refine WL.wantG rfl rfl rfl rfl (WL1.give rfl (g_move rfl (.mk (v := .int _ _) rfl rfl)) ?_)
            refine WL.wantG rfl rfl rfl rfl (WL1.give rfl (g_gt rfl (.mk rfl rfl) (.mk rfl rfl) (decide_eq_true (by omega))) ?_)
            refine WL.wantG rfl rfl rfl rfl (WL1.give rfl (g_move rfl (.mk (v := .bool _) rfl rfl)) ?_)
            refine WL.wantG rfl rfl rfl rfl (WL1.give rfl (g_move rfl (.mk (v := .int _ _) rfl rfl)) ?_)
            refine WL.wantG rfl rfl rfl rfl (WL1.give rfl (g_move rfl (.mk (v := .slice _ _ _) rfl rfl)) ?_)
            refine WL.wantG rfl rfl rfl rfl (WL1.give rfl (g_move rfl (.mk (v := .int _ _) rfl rfl)) ?_)
            refine WL.wantG rfl rfl rfl rfl (WL1.give rfl (g_sub rfl (.mk rfl rfl) (.mk rfl rfl) hsb1) ?_)
            refine WL.wantG rfl rfl rfl rfl (WL1.give rfl (g_indexAddr (sz := 1) rfl (.mk rfl rfl) (.mk rfl rfl) rfl rfl rfl (by omega) (fun _ _ => sl_some hs (by omega))) ?_)
            refine WL.wantG rfl rfl rfl rfl (WL1.give rfl (g_load rfl (.mk rfl rfl) rfl (rd_sl hs hgv2)) ?_)
            refine WL.wantG rfl rfl rfl rfl (WL1.give rfl (g_le rfl (.mk rfl rfl) (.mk rfl rfl) (decide_eq_false (by omega))) ?_)
            refine WL.wantG rfl rfl rfl rfl (WL1.give rfl (g_pickT rfl (.mk rfl rfl) (.mk (v := .bool _) rfl rfl)) ?_)
            refine wG rfl rfl (g_pickF rfl (.mk rfl rfl) (.mk (v := .bool _) rfl rfl)) ?_
            refine WL.nil (hK _ _ ?_); clear hK
            refine WC.cond_false (.mk rfl rfl) ?_
            refine WC.skip ?_
            (refine hK _ _ ?_; clear hK)
            refine WC.region rfl ?_
            refine wMS rfl rfl rfl rfl rfl ?_
            refine wMI rfl rfl rfl rfl rfl ?_
            refine wMS rfl rfl rfl rfl rfl ?_
            refine wMI rfl rfl rfl rfl rfl ?_
            refine wMS rfl rfl rfl rfl rfl ?_
            refine wMI rfl rfl rfl rfl rfl ?_
            refine wG rfl rfl (g_indexAddr (sz := 8) rfl (.mk rfl rfl) (.mk rfl rfl) rfl rfl rfl (by omega) (fun _ _ => sl_some hsb (by omega))) ?_
            refine wG rfl rfl (g_loadA rfl (.mk rfl rfl) rfl (sz8 _) (rdr_sl (cs := y.cells) hsb (by omega) gO)) ?_
            refine wG rfl rfl (g_indexAddr (sz := 8) rfl (.mk rfl rfl) (.mk rfl rfl) rfl rfl rfl (by omega) (fun _ _ => rfl)) ?_
            refine WL.want rfl (WL1.storeVA rfl rfl (.mk rfl rfl) (.mk rfl rfl) (sz8 _) (Blk.one _) (by first | decide | omega | exact Nat.le_of_ble_eq_true rfl | (simp; done) | (simp; omega) | (rw [Blk.len]; omega)) (by first | omega | (rw [Blk.len]; omega) | (simp; done) | (simp; omega)) (.head) ?_)
            refine wG rfl rfl (g_indexAddr (sz := 1) rfl (.mk rfl rfl) (.mk rfl rfl) rfl rfl rfl (by omega) (fun _ _ => rfl)) ?_
            refine WL.want rfl (WL1.storeV1 rfl rfl (.mk rfl rfl) (.mk (v := .bool _) rfl rfl) rfl rfl (by first | omega | (simp; done) | (simp; omega)) (.tail (.head)) ?_)
            refine WL.nil (hK _ _ ?_); clear hK
            refine WC.region rfl ?_
            refine wG rfl rfl (g_add rfl (.mk rfl rfl) (.mk rfl rfl) (IntWalk.i64_in _ (by omega))) ?_
            refine wMI rfl rfl rfl rfl rfl ?_
            refine WL.nil ?_
            exact ⟨i + 1, (by repeat (first | exact trivial | refine ⟨rfl, ?_⟩)), by rw [← hsp, ← hsq]; exact Imp.pick (by repeat (first | exact .head | apply Take.tail)) (Imp.pick (by repeat (first | exact .head | apply Take.tail)) (Imp.nil _)), ⟨by omega, hpr2⟩, by omega⟩
        · obtain ⟨x, hx⟩ : ∃ x, x = nth R i := ⟨_, rfl⟩
          rw [← hx] at hgv
          clear hpr
          by_cases e1 : x < 0
          · refine WC.seq fun K hK => ?_
            refine WC.region rfl ?_
            refine wG rfl rfl (g_lt rfl (.mk rfl rfl) (.mk rfl rfl) (decide_eq_true (by omega))) ?_
            refine WL.nil (hK _ _ ?_); clear hK
            refine WC.seq fun K hK => ?_
            refine WC.cond_true (.mk rfl rfl) ?_
            refine WC.skip ?_
            (refine hK _ _ ?_; clear hK)
            refine WC.seq fun K hK => ?_
            refine WC.block ?_
            refine WC.seq fun K hK => ?_
            refine WC.region rfl ?_
            refine wMI rfl rfl rfl rfl rfl ?_
            refine wG rfl rfl (g_indexAddr (sz := 1) rfl (.mk rfl rfl) (.mk rfl rfl) rfl rfl rfl (by omega) (fun _ _ => sl_some hs (by omega))) ?_
            refine wG rfl rfl (g_load rfl (.mk rfl rfl) rfl (rd_sl hs hgv)) ?_
            refine wAI rfl rfl rfl rfl rfl ?_
            refine wAI rfl rfl rfl rfl rfl ?_
            refine WL.nil (hK _ _ ?_); clear hK
            refine WC.seq fun K hK => ?_
            refine WC.seq fun K hK => ?_
            refine WC.region rfl ?_
            refine wMI rfl rfl rfl rfl rfl ?_
            refine wG rfl rfl (g_lt rfl (.mk rfl rfl) (.mk rfl rfl) (decide_eq_true (by omega))) ?_
            refine wMB rfl rfl rfl rfl rfl ?_
            refine WL.skipG rfl rfl rfl rfl rfl rfl ?_
            refine WL.skipG rfl rfl rfl rfl rfl rfl ?_
            refine WL.skipG rfl rfl rfl rfl rfl rfl ?_
            refine wG rfl rfl (g_pickT rfl (.mk rfl rfl) (.mk (v := .bool _) rfl rfl)) ?_
            refine wMB rfl rfl rfl rfl rfl ?_
            refine WL.skipG rfl rfl rfl rfl rfl rfl ?_
            refine WL.skipG rfl rfl rfl rfl rfl rfl ?_
            refine WL.skipG rfl rfl rfl rfl rfl rfl ?_
            refine WL.skipU rfl rfl rfl rfl rfl ?_
            refine WL.skipU rfl rfl rfl rfl rfl ?_
            refine WL.skipU rfl rfl rfl rfl rfl ?_
            refine WL.skipU rfl rfl rfl rfl rfl ?_
            refine WL.skipU rfl rfl rfl rfl rfl ?_
            refine WL.skipU rfl rfl rfl rfl rfl ?_
            refine WL.skipU rfl rfl rfl rfl rfl ?_
            refine WL.skipG rfl rfl rfl rfl rfl rfl ?_
            refine wG rfl rfl (g_pickT rfl (.mk rfl rfl) (.mk (v := .bool _) rfl rfl)) ?_
            refine WL.nil (hK _ _ ?_); clear hK
            refine WC.cond_true (.mk rfl rfl) ?_
            refine WC.seq fun K hK => ?_
            refine WC.region rfl ?_
            refine wAS rfl rfl rfl rfl rfl ?_
            refine wAB rfl rfl rfl rfl rfl ?_
            refine WL.nil (hK _ _ ?_); clear hK
            refine WC.ret ?_
            exact fun w' hw' => ⟨rfl, hw'.1⟩
          · by_cases e2 : x < ((N + 3 : Nat) : Int)
            · have hi0 : 0 < i := Nat.pos_of_ne_zero fun h => hoi ⟨by omega, by omega, .inl h⟩
              have hle : x ≤ nth R (i - 1) := by
                by_cases h : x ≤ nth R (i - 1)
                · exact h
                · exact absurd ⟨by omega, by omega, .inr (by omega)⟩ hoi
              have hsb1 : IntKind.i64.wrap ((i : Int) - 1) = ((i - 1 : Nat) : Int) := by rw [IntWalk.i64_in _ (by omega)]; omega
              have hgv2 := ivs_get (l := R) (k := i - 1) (by omega)
              refine WC.seq fun K hK => ?_
              refine WC.region rfl ?_
              refine wG rfl rfl (g_lt rfl (.mk rfl rfl) (.mk rfl rfl) (decide_eq_true (by omega))) ?_
              refine WL.nil (hK _ _ ?_); clear hK
              refine WC.seq fun K hK => ?_
              refine WC.cond_true (.mk rfl rfl) ?_
              refine WC.skip ?_
              (refine hK _ _ ?_; clear hK)
              refine WC.seq fun K hK => ?_
              refine WC.block ?_
              refine WC.seq fun K hK => ?_
              refine WC.region rfl ?_
              refine wMI rfl rfl rfl rfl rfl ?_
              refine wG rfl rfl (g_indexAddr (sz := 1) rfl (.mk rfl rfl) (.mk rfl rfl) rfl rfl rfl (by omega) (fun _ _ => sl_some hs (by omega))) ?_
              refine wG rfl rfl (g_load rfl (.mk rfl rfl) rfl (rd_sl hs hgv)) ?_
              refine wAI rfl rfl rfl rfl rfl ?_
              refine wAI rfl rfl rfl rfl rfl ?_
              refine WL.nil (hK _ _ ?_); clear hK
              refine WC.seq fun K hK => ?_
              refine WC.seq fun K hK => ?_
              refine WC.region rfl ?_
              refine wMI rfl rfl rfl rfl rfl ?_
              refine wG rfl rfl (g_lt rfl (.mk rfl rfl) (.mk rfl rfl) (decide_eq_false (by omega))) ?_
              refine wMB rfl rfl rfl rfl rfl ?_
              refine WL.wantG rfl rfl rfl rfl (WL1.give rfl (g_move rfl (.mk (v := .int _ _) rfl rfl)) ?_)
              refine WL.wantG rfl rfl rfl rfl (WL1.give rfl (g_move rfl (.mk (v := .int _ _) rfl rfl)) ?_)
              refine WL.wantG rfl rfl rfl rfl (WL1.give rfl (g_ge rfl (.mk rfl rfl) (.mk rfl rfl) (decide_eq_false (by omega))) ?_)
              refine wG rfl rfl (g_pickF rfl (.mk rfl rfl) (.mk (v := .bool _) rfl rfl)) ?_
              refine wMB rfl rfl rfl rfl rfl ?_
              refine WL.wantG rfl rfl rfl rfl (WL1.give rfl (g_move rfl (.mk (v := .int _ _) rfl rfl)) ?_)
              refine WL.wantG rfl rfl rfl rfl (WL1.give rfl (g_gt rfl (.mk rfl rfl) (.mk rfl rfl) (decide_eq_true (by omega))) ?_)
              refine WL.wantG rfl rfl rfl rfl (WL1.give rfl (g_move rfl (.mk (v := .bool _) rfl rfl)) ?_)
              refine WL.wantG rfl rfl rfl rfl (WL1.give rfl (g_move rfl (.mk (v := .int _ _) rfl rfl)) ?_)
              refine WL.wantG rfl rfl rfl rfl (WL1.give rfl (g_move rfl (.mk (v := .slice _ _ _) rfl rfl)) ?_)
              refine WL.wantG rfl rfl rfl rfl (WL1.give rfl (g_move rfl (.mk (v := .int _ _) rfl rfl)) ?_)
              refine WL.wantG rfl rfl rfl rfl (WL1.give rfl (g_sub rfl (.mk rfl rfl) (.mk rfl rfl) hsb1) ?_)
              refine WL.wantG rfl rfl rfl rfl (WL1.give rfl (g_indexAddr (sz := 1) rfl (.mk rfl rfl) (.mk rfl rfl) rfl rfl rfl (by omega) (fun _ _ => sl_some hs (by omega))) ?_)
              refine WL.wantG rfl rfl rfl rfl (WL1.give rfl (g_load rfl (.mk rfl rfl) rfl (rd_sl hs hgv2)) ?_)
              refine WL.wantG rfl rfl rfl rfl (WL1.give rfl (g_le rfl (.mk rfl rfl) (.mk rfl rfl) (decide_eq_true (by omega))) ?_)
              refine WL.wantG rfl rfl rfl rfl (WL1.give rfl (g_pickT rfl (.mk rfl rfl) (.mk (v := .bool _) rfl rfl)) ?_)
              refine wG rfl rfl (g_pickF rfl (.mk rfl rfl) (.mk (v := .bool _) rfl rfl)) ?_
              refine WL.nil (hK _ _ ?_); clear hK
              refine WC.cond_true (.mk rfl rfl) ?_
              refine WC.seq fun K hK => ?_
              refine WC.region rfl ?_
              refine wAS rfl rfl rfl rfl rfl ?_
              refine wAB rfl rfl rfl rfl rfl ?_
              refine WL.nil (hK _ _ ?_); clear hK
              refine WC.ret ?_
              exact fun w' hw' => ⟨rfl, hw'.1⟩
            · refine WC.seq fun K hK => ?_
              refine WC.region rfl ?_
              refine wG rfl rfl (g_lt rfl (.mk rfl rfl) (.mk rfl rfl) (decide_eq_true (by omega))) ?_
              refine WL.nil (hK _ _ ?_); clear hK
              refine WC.seq fun K hK => ?_
              refine WC.cond_true (.mk rfl rfl) ?_
              refine WC.skip ?_
              (refine hK _ _ ?_; clear hK)
              refine WC.seq fun K hK => ?_
              refine WC.block ?_
              refine WC.seq fun K hK => ?_
              refine WC.region rfl ?_
              refine wMI rfl rfl rfl rfl rfl ?_
              refine wG rfl rfl (g_indexAddr (sz := 1) rfl (.mk rfl rfl) (.mk rfl rfl) rfl rfl rfl (by omega) (fun _ _ => sl_some hs (by omega))) ?_
              refine wG rfl rfl (g_load rfl (.mk rfl rfl) rfl (rd_sl hs hgv)) ?_
              refine wAI rfl rfl rfl rfl rfl ?_
              refine wAI rfl rfl rfl rfl rfl ?_
              refine WL.nil (hK _ _ ?_); clear hK
              refine WC.seq fun K hK => ?_
              refine WC.seq fun K hK => ?_
              refine WC.region rfl ?_
              refine wMI rfl rfl rfl rfl rfl ?_
              refine wG rfl rfl (g_lt rfl (.mk rfl rfl) (.mk rfl rfl) (decide_eq_false (by omega))) ?_
              refine wMB rfl rfl rfl rfl rfl ?_
              refine WL.wantG rfl rfl rfl rfl (WL1.give rfl (g_move rfl (.mk (v := .int _ _) rfl rfl)) ?_)
              refine WL.wantG rfl rfl rfl rfl (WL1.give rfl (g_move rfl (.mk (v := .int _ _) rfl rfl)) ?_)
              refine WL.wantG rfl rfl rfl rfl (WL1.give rfl (g_ge rfl (.mk rfl rfl) (.mk rfl rfl) (decide_eq_true (by omega))) ?_)
              refine wG rfl rfl (g_pickF rfl (.mk rfl rfl) (.mk (v := .bool _) rfl rfl)) ?_
              refine wMB rfl rfl rfl rfl rfl ?_
              refine WL.skipG rfl rfl rfl rfl rfl rfl ?_
              refine WL.skipG rfl rfl rfl rfl rfl rfl ?_
              refine WL.skipG rfl rfl rfl rfl rfl rfl ?_
              refine WL.skipU rfl rfl rfl rfl rfl ?_
              refine WL.skipU rfl rfl rfl rfl rfl ?_
              refine WL.skipU rfl rfl rfl rfl rfl ?_
              refine WL.skipU rfl rfl rfl rfl rfl ?_
              refine WL.skipU rfl rfl rfl rfl rfl ?_
              refine WL.skipU rfl rfl rfl rfl rfl ?_
              refine WL.skipU rfl rfl rfl rfl rfl ?_
              refine WL.skipG rfl rfl rfl rfl rfl rfl ?_
              refine wG rfl rfl (g_pickT rfl (.mk rfl rfl) (.mk (v := .bool _) rfl rfl)) ?_
              refine WL.nil (hK _ _ ?_); clear hK
              refine WC.cond_true (.mk rfl rfl) ?_
              refine WC.seq fun K hK => ?_
              refine WC.region rfl ?_
              refine wAS rfl rfl rfl rfl rfl ?_
              refine wAB rfl rfl rfl rfl rfl ?_
              refine WL.nil (hK _ _ ?_); clear hK
              refine WC.ret ?_
              exact fun w' hw' => ⟨rfl, hw'.1⟩
      · exact absurd (fun i hi => hpr i (by omega)) hok
  · have hRl : ¬ (R.length : Int) = N := by omega
    refine calls_wc (args := [iv ((N + 3 : Nat) : Int), .slice A R.length c, .slice B O.length d]) [6, 7] [] Tryz.func54 rfl Tryz.ntmps54 rfl rfl rfl rfl (H.refl _) ?_
    refine WC.seq fun K hK => ?_
    refine WC.region rfl ?_
    refine wAS rfl rfl rfl rfl rfl ?_
    refine wAB rfl rfl rfl rfl rfl ?_
    refine WL.nil (hK _ _ ?_); clear hK
    refine WC.seq fun K hK => ?_
    refine WC.seq fun K hK => ?_
    refine WC.region rfl ?_
    refine wMS rfl rfl rfl rfl rfl ?_
    refine wG rfl rfl (g_len rfl (.mk rfl rfl) rfl) ?_
    refine wMI rfl rfl rfl rfl rfl ?_
    refine wG rfl rfl (g_sub rfl (.mk rfl rfl) (.mk rfl rfl) hsub) ?_
    refine wG rfl rfl (g_ne rfl (.mk rfl rfl) (.mk rfl rfl) (decide_eq_true (by omega))) ?_
    refine WL.nil (hK _ _ ?_); clear hK
    refine WC.cond_true (.mk rfl rfl) ?_
    refine WC.seq fun K hK => ?_
    refine WC.region rfl ?_
    refine wAS rfl rfl rfl rfl rfl ?_
    refine wAB rfl rfl rfl rfl rfl ?_
    refine WL.nil (hK _ _ ?_); clear hK
    refine WC.ret ?_
    exact fun w' hw' => ⟨rfl, hw'.1⟩
end
end Go.Proofs.YtdcijljfgcjelaaGreat
namespace Go.Proofs.YtdcijljfgcjelaaGreat
set_option maxRecDepth 20000
open Go.RowKit
attribute [local irreducible] Calls
end Go.Proofs.YtdcijljfgcjelaaGreat
namespace Go.Proofs.YtdcijljfgcjelaaGreat
set_option maxRecDepth 20000
open Go.RowKit
attribute [local irreducible] Calls
section
variable {w : World} {A B : Option Addr} {c d : Nat} {T : List Int} {bs : List Bool}
structure OffT (m : Nat) (T : List Int) (j : Nat) : Prop where
  lt : j < T.length
  ok : ∀ i, i < j → okT m T i
  bad : nth T j < 0 ∨ (m : Int) - 3 ≤ nth T j ∨ (0 < j ∧ nth T j ≤ nth T (j - 1))
end
end Go.Proofs.YtdcijljfgcjelaaGreat
namespace Go.Proofs.YtdcijljfgcjelaaGreat
set_option maxRecDepth 20000
open Go.RowKit
attribute [local irreducible] Calls
section
variable {w : World} {A B : Option Addr} {c d : Nat} {T : List Int} {bs : List Bool}
theorem numL_T {p : Nat → Bool} {i : Nat} (h : p i = true) : numL p (i + 1) = numL p i ++ [i] := by rw [numL, if_pos h]
theorem numL_F {p : Nat → Bool} {i : Nat} (h : p i = false) : numL p (i + 1) = numL p i := by rw [numL, if_neg (by rw [h]; exact Bool.false_ne_true)]
end
end Go.Proofs.YtdcijljfgcjelaaGreat
namespace Go.Proofs.YtdcijljfgcjelaaGreat
set_option maxRecDepth 20000
open Go.RowKit
attribute [local irreducible] Calls
def pick3 (a b g : List Nat) (ka kb : Bool) (N : Nat) : List Nat :=
  if ka && ((!kb || decide (a.length ≤ b.length)) && decide (a.length ≤ N)) then a else if kb then b else g.take N
def refL (N : Nat) (T : List Int) (bs : List Bool) : List Nat :=
  pick3 (numL (dP (N + 3) T) (N + 3)) (numL (rP (N + 3) T) (N + 3)) (numL (gP bs) (N + 3)) (goodL (numL (dP (N + 3) T) (N + 3)) bs) (goodL (numL (rP (N + 3) T) (N + 3)) bs) N
theorem pick3_up (a b g : List Nat) (ka kb : Bool) (N : Nat) (hb : b.length ≤ N) (hg : N ≤ g.length) :
    (upB (upB (upB none a ka) b kb) (g.take N) true).getD [] = pick3 a b g ka kb N := by
  have ht : (g.take N).length = N := by rw [List.length_take]; omega
  cases ka <;> cases kb <;> simp only [upB, pick3, ht, Bool.not_true, Bool.not_false, Bool.false_and, Bool.true_and, Bool.false_or, Bool.true_or, Option.isNone_none, Option.isNone_some, Option.getD_some, if_true, Bool.false_eq_true, if_false]
  · rw [decide_eq_false (by omega : ¬ N < b.length)]; rfl
  · by_cases h : a.length ≤ N
    · rw [decide_eq_false (by omega : ¬ N < a.length), decide_eq_true h]; rfl
    · rw [decide_eq_true (by omega : N < a.length), decide_eq_false h]; rfl
  · by_cases h : a.length ≤ b.length
    · rw [decide_eq_false (by omega : ¬ b.length < a.length), decide_eq_true h, decide_eq_true (by omega : a.length ≤ N)]
      simp only [Bool.false_eq_true, if_false, Option.isNone_some, Option.getD_some, Bool.false_or]
      rw [decide_eq_false (by omega : ¬ N < a.length)]; rfl
    · rw [decide_eq_true (by omega : b.length < a.length), decide_eq_false h]
      simp only [if_true, Option.isNone_some, Option.getD_some, Bool.false_or]
      rw [decide_eq_false (by omega : ¬ N < b.length)]; rfl
theorem numL_drop {p : Nat → Bool} {i j : Nat} (h : ∀ k, i ≤ k → p k = false) : numL p (i + j) = numL p i := by
  induction j with
  | zero => rfl
  | succ j ih => rw [← Nat.add_assoc, numL_F (h _ (by omega)), ih]
theorem rest_le (N : Nat) (T : List Int) : (numL (rP (N + 3) T) (N + 3)).length ≤ N := by
  rw [numL_drop (i := N) (j := 3) fun k hk => by unfold rP; rw [decide_eq_false (by omega)]; rfl]
  exact numL_le _ _
theorem numL_both (p : Nat → Bool) : ∀ n, (numL p n).length + (numL (fun i => !p i) n).length = n
  | 0 => rfl
  | n + 1 => by
    have ih := numL_both p n
    cases h : p n with
    | true => rw [numL_T h, numL_F (by show (!p n) = false; rw [h]; rfl), List.length_append]; simp only [List.length_cons, List.length_nil]; omega
    | false => rw [numL_F h, numL_T (by show (!p n) = true; rw [h]; rfl), List.length_append]; simp only [List.length_cons, List.length_nil]; omega
theorem o3_ref {N : Nat} {T : List Int} {bs : List Bool} (hN : bs.length = N + 3) (hg : N ≤ (numL (gP bs) (N + 3)).length) : (o3 N T bs).getD [] = refL N T bs := by
  unfold o3 o2 o1 refL
  rw [hN]
  exact pick3_up _ _ _ _ _ _ (rest_le N T) hg
section
variable {w : World} {A B : Option Addr} {c d : Nat} {T : List Int} {bs : List Bool}
end
end Go.Proofs.YtdcijljfgcjelaaGreat
namespace Go.Proofs.YtdcijljfgcjelaaGreat
set_option maxRecDepth 20000
open Go.RowKit
attribute [local irreducible] Calls
section
variable {w : World} {A B : Option Addr} {c d : Nat} {T : List Int} {bs : List Bool}
end
end Go.Proofs.YtdcijljfgcjelaaGreat
namespace Go.Proofs.YtdcijljfgcjelaaGreat
set_option maxRecDepth 20000
open Go.RowKit
attribute [local irreducible] Calls
section
variable {w : World} {A B : Option Addr} {c d : Nat} {T : List Int} {bs : List Bool}
end
end Go.Proofs.YtdcijljfgcjelaaGreat
namespace Go.Proofs.YtdcijljfgcjelaaGreat
set_option maxRecDepth 20000
open Go.RowKit
attribute [local irreducible] Calls
theorem Sl.cast {w : World} {sz a b : Nat} {v : Value} {xs : List Value} (h : Sl w sz v a xs) (e : a = b) : Sl w sz v b xs := by subst e; exact h
section
variable {w : World} {A B D : Option Addr} {c d e N : Nat} {m : Int} {R : List Int} {O : List Blk} {l : List Chg}
end
end Go.Proofs.YtdcijljfgcjelaaGreat
namespace Go.Proofs.YtdcijljfgcjelaaGreat
set_option maxRecDepth 20000
open Go.RowKit Go.Maps
attribute [local irreducible] Calls
theorem nats_ints (l : List Nat) : nats (ints l) = l := by
  unfold nats ints
  rw [List.map_map]
  conv => rhs; rw [← List.map_id l]
  exact List.map_congr_left fun a _ => Int.toNat_natCast a
theorem gdelta_k {w : World} {A B : Option Addr} {c d N t m : Nat} {T Dl : List Nat} {bs : List Bool} (hm : m = N + 3) (hbl : bs.length = m) (h1 : 1 ≤ N) (h2 : N ≤ 13) (ht : T.length = t) (hD : Dl = numL (dP (N + 3) (ints T)) (N + 3)) (hs : Sl w 1 (.slice A t c) t (ldv T)) (hsb : Sl w 1 (.slice B m d) m (bls bs)) :
    Calls Tryz.prog 50 #[iv m, .slice A t c, .slice B m d] w fun e w' => ∃ v' M, e = .returned v' ∧ H w M w' ∧ ∃ A1 c1 q, v' = .tuple #[.slice A1 Dl.length c1, .bool q] ∧ M = [vec A1 Dl.length c1 3 1 (ldv Dl)] := by
  subst ht; subst hbl; subst hD
  have := delta_n (T := ints T) (bs := bs) (A := A) (c := c) (B := B) (d := d) (w := w) (by omega) (by rw [ints_len, ← ldv_ints]; exact hs) hsb
  rw [ints_len, hm] at this
  rw [hm]
  exact this.mono fun e w' ⟨v', M, h1, h2, A1, c1, h3, h4⟩ => ⟨v', M, h1, h2, A1, c1, _, h3, h4⟩
theorem grest_k {w : World} {A B : Option Addr} {c d N t m : Nat} {T Dl : List Nat} {bs : List Bool} (hm : m = N + 3) (hbl : bs.length = m) (h1 : 1 ≤ N) (h2 : N ≤ 13) (ht : T.length = t) (hD : Dl = numL (rP (N + 3) (ints T)) (N + 3)) (hs : Sl w 1 (.slice A t c) t (ldv T)) (hsb : Sl w 1 (.slice B m d) m (bls bs)) :
    Calls Tryz.prog 51 #[iv m, .slice A t c, .slice B m d] w fun e w' => ∃ v' M, e = .returned v' ∧ H w M w' ∧ ∃ A1 c1 q, v' = .tuple #[.slice A1 Dl.length c1, .bool q] ∧ M = [vec A1 Dl.length c1 3 1 (ldv Dl)] := by
  subst ht; subst hbl; subst hD
  have := recompute_n (T := ints T) (bs := bs) (A := A) (c := c) (B := B) (d := d) (w := w) (by omega) (by rw [ints_len, ← ldv_ints]; exact hs) hsb
  rw [ints_len, hm] at this
  rw [hm]
  exact this.mono fun e w' ⟨v', M, h1, h2, A1, c1, h3, h4⟩ => ⟨v', M, h1, h2, A1, c1, _, h3, h4⟩
theorem intseq_k {v1 v2 : Value} {R : List Int} {D : List Nat} {n m : Nat} {b : Bool} {w : World} (hn : R.length = n) (hm : D.length = m) (hb : decide (R = ints D) = b) (h1 : Sl w 1 v1 n (ivs R)) (h2 : Sl w 1 v2 m (ldv D)) :
    Calls Tryz.prog 52 #[v1, v2] w fun e w' => e = .returned (.bool b) ∧ Below w.heap.size w w' := by
  subst hn; subst hm; subst hb
  exact intseq_e v1 v2 R (ints D) w h1 (by rw [ints_len, ← ldv_ints]; exact h2)
theorem kI : Keyed Tryz.prog 3 := int_keyed (q := .i64) (by kernel_rfl)
theorem kv_zero (w : World) : (zeroValue 41).run Tryz.prog w = .ok (kv 0) w := run_zero (by rfl) w
theorem key_nat {i : Nat} (h : i ≤ 1000000) : keyOf Tryz.prog 3 (iv i) = some (.int .i64 i) := keyOf_int_mk (by kernel_rfl) (by
  show (decide (IntKind.i64.min ≤ (i : Int)) && decide ((i : Int) ≤ IntKind.i64.max)) = true
  exact Bool.and_eq_true_iff.2 ⟨decide_eq_true (show (-9223372036854775808 : Int) ≤ (i : Int) by omega), decide_eq_true (show (i : Int) ≤ (9223372036854775807 : Int) by omega)⟩)
set_option maxHeartbeats 1000000 in
theorem pred_last {w : World} {bm b10 c N : Nat} {l : List Chg} (hN : N ≤ 1000) (hc : w.cell? ⟨b10, 0, none⟩ = some (.map (some bm))) (hm : w.ownsMap Tryz.prog 3 selfR bm c (mD l l.length)) :
    Pred w 49 [cellPtr (some ⟨b10, 0, none⟩) 0] (fun i => (lastC l i l.length).isSome) N := by
  refine ⟨by kernel_rfl, fun i hi w' hb => ?_⟩
  have h1 := kept_cell hb hc
  have hmw : ∀ w2, H w' [] w2 → w2.ownsMap Tryz.prog 3 selfR bm c (mD l l.length) := fun w2 h => own_below (own_below hm hb) h.1
  have hat := mD_at l (i : Int) l.length
  have hha := mD_has l (i : Int) l.length
  have hk := key_nat (i := i) (by omega)
  obtain ⟨y, hy⟩ : ∃ y, y = (lastC l (i : Int) l.length).getD 0 := ⟨_, rfl⟩
  rw [← hy] at hat
  refine calls_wc (args := [iv i, cellPtr (some ⟨b10, 0, none⟩) 0]) [3] [] Tryz.func49 rfl Tryz.ntmps49 rfl rfl rfl rfl (H.refl _) ?_
  refine WC.seq fun K hK => ?_
  refine WC.region rfl ?_
  refine wAB rfl rfl rfl rfl rfl ?_
  refine WL.nil (hK _ _ ?_); clear hK
  refine WC.seq fun K hK => ?_
  refine WC.region rfl ?_
  refine wG rfl rfl (g_load rfl (.mk rfl rfl) rfl (rd_wb h1)) ?_
  refine wMI rfl rfl rfl rfl rfl ?_
  refine wG rfl rfl (g_lookOkW (z := kv 0) hmw rfl (.mk rfl rfl) (.mk rfl rfl) kI rfl kv_zero hk hat hha) ?_
  refine wG rfl rfl (g_move rfl (.mk (v := .tuple _) rfl rfl)) ?_
  refine wG rfl rfl (g_extract rfl (.mk rfl rfl) rfl) ?_
  refine wG rfl rfl (g_extract rfl (.mk rfl rfl) rfl) ?_
  refine WL.want rfl (WL1.alloc rfl rfl rfl rfl (fun b4 => ?_))
  refine WL.want rfl (WL1.storeAll rfl rfl (.mk rfl rfl) (.mk rfl rfl) (sz8 _) y.one (by rw [Blk.len]; rfl) .head ?_)
  refine wAB rfl rfl rfl rfl rfl ?_
  refine WL.nil (hK _ _ ?_); clear hK
  refine WC.seq fun K hK => ?_
  refine WC.region rfl ?_
  refine wMB rfl rfl rfl rfl rfl ?_
  refine wAB rfl rfl rfl rfl rfl ?_
  refine WL.nil (hK _ _ ?_); clear hK
  refine WC.ret ?_
  exact fun w' hw' => ⟨rfl, hw'.1⟩
end Go.Proofs.YtdcijljfgcjelaaGreat
namespace Go.Proofs.YtdcijljfgcjelaaGreat
set_option maxRecDepth 20000
open Go.RowKit Go.Maps
attribute [local irreducible] Calls
section
variable {w : World} {A B D : Option Addr} {c d e N : Nat} {m : Int} {R : List Int} {O : List Blk} {l : List Chg}
set_option maxHeartbeats 8000000 in
theorem compute_n (hN1 : 1 ≤ N) (hN2 : N ≤ 13) (ho : okC ((N + 3 : Nat) : Int) l = true) (hl : l.length ≠ 0) (hll : l.length ≤ 1000000) (hRO : R.length = O.length) (hR40 : R.length ≤ 1000) (hs : Sl w 1 (.slice A R.length c) R.length (ivs R)) (hsb : Sl w 8 (.slice B O.length d) O.length (kvs O)) (hsl : Sl w 9 (.slice D l.length e) l.length (cvs l)) :
    Calls Tryz.prog 17 #[iv ((N + 3 : Nat) : Int), .slice A R.length c, .slice B O.length d, .slice D l.length e] w fun en w' => ∃ v' M, en = .returned v' ∧ H w M w' ∧
      ((∃ p, cmpP N R O l = some p ∧ ∃ A1 c1, v' = .tuple #[.slice A1 ((tch l (N + 3)).length + 3) c1, iv 0] ∧ M = [vec A1 ((tch l (N + 3)).length + 3) c1 55 9 (cvs (resL l (tch l (N + 3)) N p))]) ∨ (cmpP N R O l = none ∧ v' = .tuple #[.slice none 0 0, iv 1])) := by
  have hsub : IntKind.i64.wrap (((N + 3 : Nat) : Int) - 3) = (N : Int) := by rw [IntWalk.i64_in _ (by omega)]; omega
  have hval : ∀ w', Calls Tryz.prog 43 #[iv ((N + 3 : Nat) : Int)] w' fun e w2 => e = .returned (.bool true) ∧ Below w'.heap.size w' w2 := fun w' => by
    have := valid_i ((N + 3 : Nat) : Int) w'
    rwa [decide_eq_true (by omega)] at this
  have hch := fun w' hb => changes_e (.slice D l.length e) l ((N + 3 : Nat) : Int) w' (by omega) (hsl.below (w' := w') hb)
  rw [ho] at hch
  have hTlt : ∀ k, k < (tch l (N + 3)).length → nth (tch l (N + 3)) k < N := fun k hk => tch_lt ho hk
  have hTl : (tch l (N + 3)).length ≤ N + 3 := numL_le _ _
  have hDall := dP_all ho
  have hcmp : cmpP N R O l = if R = ints (numL (dP (N + 3) (ints (tch l (N + 3)))) (N + 3)) then some (dltP l O (tch l (N + 3)) (tch l (N + 3)).length)
    else if R = ints (numL (rP (N + 3) (ints (tch l (N + 3)))) (N + 3)) then some (enc (datP (rsP N O (nats R) R.length) l l.length))
    else if R.length = N ∧ ∀ i, i < N → okR (N + 3) R i then some (enc (datP (frD N O R) l l.length)) else none := rfl
  have hnum : ∀ (bm b10 c : Nat) (w' : World), w'.cell? ⟨b10, 0, none⟩ = some (.map (some bm)) → w'.ownsMap Tryz.prog 3 selfR bm c (mD l l.length) → Calls Tryz.prog 44 #[iv ((N + 3 : Nat) : Int), .func (.func 49) #[] [cellPtr (some ⟨b10, 0, none⟩) 0].toArray] w' fun e w2 => ∃ v' M, e = .returned v' ∧ H w' M w2 ∧ ∃ A c, v' = .slice A (tch l (N + 3)).length c ∧ M = [vec A (tch l (N + 3)).length c 3 1 (ldv (tch l (N + 3)))] := fun bm b10 c w' h1 h2 => numbers_n _ _ _ (N + 3) w' (pred_last (by omega) h1 h2) (by omega)
  obtain ⟨T, hT⟩ : ∃ T, T = tch l (N + 3) := ⟨_, rfl⟩
  have hTm : ∀ z : Nat, z < N + 3 → (lastC l z l.length).isSome = true → z < N := fun z hz h => by
    have h1 : z ∈ tch l (N + 3) := tch_mem.2 ⟨hz, h⟩
    rw [tch_data ho, numL_mem] at h1
    exact h1.1
  rw [← hT] at hTlt hTl hcmp hDall hnum ⊢
  obtain ⟨Dl, hD⟩ : ∃ Dl, Dl = numL (dP (N + 3) (ints T)) (N + 3) := ⟨_, rfl⟩
  obtain ⟨Rs, hRs⟩ : ∃ Rs, Rs = numL (rP (N + 3) (ints T)) (N + 3) := ⟨_, rfl⟩
  have hdel := fun w (A B : Option Addr) (c d : Nat) h h2 => gdelta_k (w := w) (A := A) (c := c) (B := B) (d := d) (N := N) (m := N + 3) (T := T) (bs := List.replicate (N + 3) false) rfl List.length_replicate hN1 hN2 rfl hD h h2
  have hrst := fun w (A B : Option Addr) (c d : Nat) h h2 => grest_k (w := w) (A := A) (c := c) (B := B) (d := d) (N := N) (m := N + 3) (T := T) (bs := List.replicate (N + 3) false) rfl List.length_replicate hN1 hN2 rfl hRs h h2
  have hRsN : ∀ k, k < Rs.length → nth Rs k < N := fun k hk => by
    have h1 : nth Rs k ∈ numL (rP (N + 3) (ints T)) (N + 3) := by rw [← hRs, nth_eq hk]; exact List.getElem_mem hk
    have h2 := ((numL_mem _).1 h1).2
    unfold rP at h2
    rw [Bool.and_eq_true] at h2
    have := of_decide_eq_true h2.1
    omega
  rw [← hD, ← hRs] at hcmp
  rw [← hD] at hDall
  have hDl : Dl.length = T.length + 3 := by rw [hDall, List.length_append]; rfl
  have hRsl : Rs.length ≤ N + 3 := by rw [hRs]; exact numL_le _ _
  have hmade := bls_made (N + 3)
  clear hT hD hRs hDall
  refine calls_wc (args := [iv ((N + 3 : Nat) : Int), .slice A R.length c, .slice B O.length d, .slice D l.length e]) [8, 9] [] Tryz.func17 rfl Tryz.ntmps17 rfl rfl rfl rfl (H.refl _) ?_
  refine WC.seq fun K hK => ?_
  refine WC.region rfl ?_
  refine wAS rfl rfl rfl rfl rfl ?_
  refine wAI rfl rfl rfl rfl rfl ?_
  refine WL.nil (hK _ _ ?_); clear hK
  refine WC.seq fun K hK => ?_
  refine WC.seq fun K hK => ?_
  refine WC.region rfl ?_
  refine wMI rfl rfl rfl rfl rfl ?_
  refine WL.want rfl (WL1.callP rfl rfl rfl (.cons (.mk (v := .int _ _) rfl rfl) .nil) (fun w hw => hval w) ?_)
  refine wG rfl rfl (g_notT rfl (.mk rfl rfl)) ?_
  refine wMB rfl rfl rfl rfl rfl ?_
  refine WL.wantG rfl rfl rfl rfl (WL1.give rfl (g_move rfl (.mk (v := .int _ _) rfl rfl)) ?_)
  refine WL.wantG rfl rfl rfl rfl (WL1.give rfl (g_move rfl (.mk (v := .slice _ _ _) rfl rfl)) ?_)
  refine WL.wantG rfl rfl rfl rfl (WL1.callP rfl rfl rfl (.cons (.mk (v := .int _ _) rfl rfl) (.cons (.mk (v := .slice _ _ _) rfl rfl) .nil)) (fun w hw => hch w hw.1) ?_)
  refine WL.wantG rfl rfl rfl rfl (WL1.give rfl (g_notT rfl (.mk rfl rfl)) ?_)
  refine wG rfl rfl (g_pickF rfl (.mk rfl rfl) (.mk (v := .bool _) rfl rfl)) ?_
  refine WL.nil (hK _ _ ?_); clear hK
  refine WC.cond_false (.mk rfl rfl) ?_
  refine WC.skip ?_
  (refine hK _ _ ?_; clear hK)
  refine WC.seq fun K hK => ?_
  refine WC.seq fun K hK => ?_
  refine WC.region rfl ?_
  refine wMS rfl rfl rfl rfl rfl ?_
  refine wG rfl rfl (g_len rfl (.mk rfl rfl) rfl) ?_
  refine wG rfl rfl (g_eq rfl (.mk rfl rfl) (.mk rfl rfl) (decide_eq_false (by omega))) ?_
  refine WL.nil (hK _ _ ?_); clear hK
  refine WC.cond_false (.mk rfl rfl) ?_
  refine WC.skip ?_
  (refine hK _ _ ?_; clear hK)
  refine WC.seq fun K hK => ?_
  refine WC.seq fun K hK => ?_
  refine WC.region rfl ?_
  refine wMS rfl rfl rfl rfl rfl ?_
  refine wG rfl rfl (g_len rfl (.mk rfl rfl) rfl) ?_
  refine wMS rfl rfl rfl rfl rfl ?_
  refine wG rfl rfl (g_len rfl (.mk rfl rfl) rfl) ?_
  refine wG rfl rfl (g_ne rfl (.mk rfl rfl) (.mk rfl rfl) (decide_eq_false (by omega))) ?_
  refine WL.nil (hK _ _ ?_); clear hK
  refine WC.cond_false (.mk rfl rfl) ?_
  refine WC.skip ?_
  (refine hK _ _ ?_; clear hK)
  refine WC.seq fun K hK => ?_
  refine WC.region rfl ?_
  refine WL.want rfl (WL1.makeMap (k := 3) rfl rfl (fun b51 => ?_))
  refine WL.want rfl (WL1.alloc rfl rfl rfl rfl (fun b10 => ?_))
  refine WL.want rfl (WL1.store1 rfl rfl (.mk rfl rfl) (.mk rfl rfl) rfl rfl (Nat.le_of_ble_eq_true rfl) (.head) ?_)
  refine WL.nil (hK _ _ ?_); clear hK
  refine WC.seq fun K hK => ?_
  refine WC.seq fun K hK => ?_
  refine WC.region rfl ?_
  refine wMS rfl rfl rfl rfl rfl ?_
  refine wG rfl rfl (g_len rfl (.mk rfl rfl) rfl) ?_
  refine wMI rfl rfl rfl rfl rfl ?_
  refine WL.nil (hK _ _ ?_); clear hK
  refine WC.block ?_
  refine WC.loopF (fun i : Nat => [(54, iv i), (53, iv l.length), (52, .slice D l.length e), (10, cellPtr (some ⟨b10, 0, none⟩) 0), (0, iv ((N + 3 : Nat) : Int)), (1, .slice A R.length c), (2, .slice B O.length d), (3, .slice D l.length e)]) (fun i => [pt b10 113 [.map (some b51)], mp Tryz.prog 3 b51 i (mD l i)]) (fun i => i ≤ l.length) (fun i => l.length - i) 0 (by repeat (first | exact trivial | refine ⟨rfl, ?_⟩)) (Imp.pick (by repeat (first | exact .head | apply Take.tail)) (Imp.pick (by repeat (first | exact .head | apply Take.tail)) (Imp.nil _))) (by omega) ?_
  intro i U hi
  by_cases hlt : i < l.length
  · have hgd := chg_row (l := l) (k := i) hlt
    have hmn : (mD l i).put (.int .i64 (nth l i).s) (.held (kv (nth l i).b)) = mD l (i + 1) := rfl
    have hq := okC_each ho hlt
    obtain ⟨x, hx⟩ : ∃ x, x = nth l i := ⟨_, rfl⟩
    rw [← hx] at hgd hmn hq
    have hkx : keyOf Tryz.prog 3 (iv x.s) = some (.int .i64 x.s) := by
      have := key_nat (i := x.s.toNat) (by omega)
      rwa [Int.toNat_of_nonneg (by omega)] at this
    have g0 : x.cells[0 + (0 + 0)]? = some (iv x.s) := rfl
    have gb : ∀ j u, x.b.cells[j]? = some u → x.cells[0 + (0 + 1 + j)]? = some u := fun j u h => by rw [show 0 + (0 + 1 + j) = 1 + j from by omega]; exact x.atb j u h
    clear hx hnum hdel hrst hcmp
    refine WC.seq fun K hK => ?_
    refine WC.region rfl ?_
    refine wG rfl rfl (g_lt rfl (.mk rfl rfl) (.mk rfl rfl) (decide_eq_true (by omega))) ?_
    refine WL.nil (hK _ _ ?_); clear hK
    refine WC.seq fun K hK => ?_
    refine WC.cond_true (.mk rfl rfl) ?_
    refine WC.skip ?_
    (refine hK _ _ ?_; clear hK)
    refine WC.seq fun K hK => ?_
    refine WC.block ?_
    refine WC.seq fun K hK => ?_
    refine WC.region rfl ?_
    refine wG rfl rfl (g_indexAddr (sz := 9) rfl (.mk rfl rfl) (.mk rfl rfl) rfl rfl rfl (by omega) (fun _ _ => sl_some hsl (by omega))) ?_
    refine wG rfl rfl (g_loadA rfl (.mk rfl rfl) rfl (sz9 _) (rdr_sl hsl (by omega) hgd)) ?_
    refine WL.want rfl (WL1.alloc rfl rfl rfl rfl (fun b12 => ?_))
    refine WL.want rfl (WL1.storeAll rfl rfl (.mk rfl rfl) (.mk rfl rfl) (sz9 _) (Chg.one _) (by rw [Chg.len]; rfl) .head ?_)
    refine WL.nil (hK _ _ ?_); clear hK
    refine WC.region rfl ?_
    refine wG rfl rfl (g_load rfl (.mk rfl rfl) rfl (rd_pt (.tail _ (.head _)) rfl)) ?_
    refine wG rfl rfl (g_fieldAddr (off := 0) rfl (.mk rfl rfl) rfl (fun _ _ => rfl)) ?_
    refine wG rfl rfl (g_load rfl (.mk rfl rfl) rfl (rd_pt (by first | ((repeat (first | exact .head _ | apply List.Mem.tail)); done) | fail) g0)) ?_
    refine wG rfl rfl (g_fieldAddr (off := 1) rfl (.mk rfl rfl) rfl (fun _ _ => rfl)) ?_
    refine wG rfl rfl (g_loadA rfl (.mk rfl rfl) rfl (sz8 _) (rdr_pt (cs := x.b.cells) (by first | ((repeat (first | exact .head _ | apply List.Mem.tail)); done) | fail) gb)) ?_
    refine WL.want rfl (WL1.mapUpdate (c := i) rfl rfl (.mk rfl rfl) (.mk rfl rfl) (.mk (v := kv _) rfl rfl) kI rfl (by unfold maxLen; omega) hkx (by repeat (first | exact .head | apply Swap.tail)) ?_)
    refine WL.nil (hK _ _ ?_); clear hK
    refine WC.region rfl ?_
    refine wG rfl rfl (g_add rfl (.mk rfl rfl) (.mk rfl rfl) (IntWalk.i64_in _ (by omega))) ?_
    refine wMI rfl rfl rfl rfl rfl ?_
    refine WL.nil ?_
    exact ⟨i + 1, (by repeat (first | exact trivial | refine ⟨rfl, ?_⟩)), by rw [← hmn]; exact Imp.pick (by repeat (first | exact .head | apply Take.tail)) (Imp.pick (by repeat (first | exact .head | apply Take.tail)) (Imp.nil _)), by omega, by omega⟩
  · obtain rfl : i = l.length := by omega
    refine WC.seq fun K hK => ?_
    refine WC.region rfl ?_
    refine wG rfl rfl (g_lt rfl (.mk rfl rfl) (.mk rfl rfl) (decide_eq_false (by omega))) ?_
    refine WL.nil (hK _ _ ?_); clear hK
    refine WC.seq fun K hK => ?_
    refine WC.cond_false (.mk rfl rfl) ?_
    refine WC.exit ?_
    (clear hK; refine hK _ _ ?_; clear hK)
    refine WC.seq fun K hK => ?_
    refine WC.region rfl ?_
    refine wMI rfl rfl rfl rfl rfl ?_
    refine wG rfl rfl (g_makeFunc rfl (.cons (.mk (v := cellPtr _ _) rfl rfl) .nil)) ?_
    (refine WL.want rfl (WL1.callN rfl rfl rfl (.cons (.mk (v := .int _ _) rfl rfl) (.cons (.mk (v := .func _ _ _) rfl rfl) .nil)) (fun w hw => hnum _ _ _ w (cell_pt hw (by first | ((repeat (first | exact .head _ | apply List.Mem.tail)); done) | fail) rfl) (mp_own hw (by first | ((repeat (first | exact .head _ | apply List.Mem.tail)); done) | fail))) ?_); rintro _ _ ⟨At, ct, rfl, rfl⟩)
    refine wAS rfl rfl rfl rfl rfl ?_
    refine WL.nil (hK _ _ ?_); clear hK
    refine WC.seq fun K hK => ?_
    refine WC.region rfl ?_
    refine wMI rfl rfl rfl rfl rfl ?_
    refine WL.want rfl (WL1.make elBo rfl rfl (.mk rfl rfl) (.mk rfl rfl) rfl rfl (by omega) (by unfold maxLen; omega) (fun b68 => ?_))
    refine wAS rfl rfl rfl rfl rfl ?_
    refine WL.nil (hK _ _ ?_); clear hK
    refine WC.seq fun K hK => ?_
    refine WC.region rfl ?_
    refine wMI rfl rfl rfl rfl rfl ?_
    refine wMS rfl rfl rfl rfl rfl ?_
    refine wMS rfl rfl rfl rfl rfl ?_
    (refine WL.want rfl (WL1.callN rfl rfl rfl (.cons (.mk (v := .int _ _) rfl rfl) (.cons (.mk (v := .slice _ _ _) rfl rfl) (.cons (.mk (v := .slice _ _ _) rfl rfl) .nil))) (fun w hw => hdel w _ _ _ _ (Sl.of_vec hw (by first | ((repeat (first | exact .head _ | apply List.Mem.tail)); done) | fail)) (Sl.of_vecE hw (by first | ((repeat (first | exact .head _ | apply List.Mem.tail)); done) | fail) rfl hmade)) ?_); rintro _ _ ⟨Ad, cd, qd, rfl, rfl⟩)
    refine wG rfl rfl (g_move rfl (.mk (v := .tuple _) rfl rfl)) ?_
    refine wG rfl rfl (g_extract rfl (.mk rfl rfl) rfl) ?_
    refine wG rfl rfl (g_extract rfl (.mk rfl rfl) rfl) ?_
    refine wAS rfl rfl rfl rfl rfl ?_
    refine wAB rfl rfl rfl rfl rfl ?_
    refine WL.nil (hK _ _ ?_); clear hK
    refine WC.seq fun K hK => ?_
    refine WC.region rfl ?_
    refine wMI rfl rfl rfl rfl rfl ?_
    refine wMS rfl rfl rfl rfl rfl ?_
    refine wMS rfl rfl rfl rfl rfl ?_
    (refine WL.want rfl (WL1.callN rfl rfl rfl (.cons (.mk (v := .int _ _) rfl rfl) (.cons (.mk (v := .slice _ _ _) rfl rfl) (.cons (.mk (v := .slice _ _ _) rfl rfl) .nil))) (fun w hw => hrst w _ _ _ _ (Sl.of_vec hw (by first | ((repeat (first | exact .head _ | apply List.Mem.tail)); done) | fail)) (Sl.of_vecE hw (by first | ((repeat (first | exact .head _ | apply List.Mem.tail)); done) | fail) rfl hmade)) ?_); rintro _ _ ⟨Ar, cr, qr, rfl, rfl⟩)
    refine wG rfl rfl (g_move rfl (.mk (v := .tuple _) rfl rfl)) ?_
    refine wG rfl rfl (g_extract rfl (.mk rfl rfl) rfl) ?_
    refine wG rfl rfl (g_extract rfl (.mk rfl rfl) rfl) ?_
    refine wAS rfl rfl rfl rfl rfl ?_
    refine wAB rfl rfl rfl rfl rfl ?_
    refine WL.nil (hK _ _ ?_); clear hK
    refine WC.seq fun K hK => ?_
    refine WC.region rfl ?_
    refine wAS rfl rfl rfl rfl rfl ?_
    refine WL.nil (hK _ _ ?_); clear hK
    refine WC.seqF (fun q : Option Addr × Nat × List Blk => [(19, .slice q.1 3 q.2.1), (13, .slice At T.length ct), (10, cellPtr (some ⟨b10, 0, none⟩) 0), (0, iv ((N + 3 : Nat) : Int))]) (fun q => [mp Tryz.prog 3 b51 l.length (mD l l.length), vec q.1 3 q.2.1 41 8 (kvs q.2.2), vec At T.length ct 3 1 (ldv T), pt b10 113 [.map (some b51)]]) (fun q => cmpP N R O l = some q.2.2 ∧ q.2.2.length = 3) ?_ (fun q U2 hq => ?_)
    refine WC.block ?_
    rotate_left
    refine WC.seq fun K hK => ?_
    refine WC.region rfl ?_
    refine wAS rfl rfl rfl rfl rfl ?_
    refine WL.nil (hK _ _ ?_); clear hK
    refine WC.seq fun K hK => ?_
    refine WC.seq fun K hK => ?_
    refine WC.region rfl ?_
    refine wMS rfl rfl rfl rfl rfl ?_
    refine wG rfl rfl (g_len rfl (.mk rfl rfl) rfl) ?_
    refine wMI rfl rfl rfl rfl rfl ?_
    refine WL.nil (hK _ _ ?_); clear hK
    refine WC.block ?_
    rotate_left
    · clear hnum hdel hrst hval hch hmade
      by_cases hA : R = ints Dl
      · have hp := (hcmp.trans (if_pos hA))
        have hdT : decide (R = ints Dl) = true := decide_eq_true hA
        have hOl : O.length = T.length + 3 := by rw [← hRO, hA, ints_len, hDl]
        have hcd : O.length ≤ d := by
          obtain ⟨_, _, e1, h1, _⟩ := hsb.open_
          injection e1 with _ _ e3
          omega
        have hpt : Sl w 8 (.slice (subA B d T.length 8) (O.length - T.length) (d - T.length)) 3 (kvs (O.drop T.length)) := by
          have e1 : (O.drop T.length).take (O.length - T.length) = O.drop T.length := List.take_of_length_le (by rw [List.length_drop]; exact Nat.le_refl _)
          have := Sl.blks (l := T.length) (h := O.length) hsb rfl (by omega) (by omega)
          rw [e1] at this
          exact this.cast (by rw [List.length_drop]; omega)
        have hcl : ∀ w', Below w.heap.size w w' → Calls Tryz.prog 40 #[.slice (subA B d T.length 8) (O.length - T.length) (d - T.length)] w' fun e w2 => ∃ v' M, e = .returned v' ∧ H w' M w2 ∧ ∃ A c, v' = .slice A 3 c ∧ M = [vec A 3 c 41 8 (kvs (dltP l O T 0))] := fun w' hb => by
          have h3 : (O.drop T.length).length = 3 := by rw [List.length_drop]; omega
          have := clone_n (.slice (subA B d T.length 8) (O.length - T.length) (d - T.length)) (O.drop T.length) w' (by rw [h3]; exact hpt.below hb) (by omega) (by omega)
          rwa [h3] at this
        clear hcmp hRsN
        refine WC.seq fun K hK => ?_
        refine WC.region rfl ?_
        refine wMS rfl rfl rfl rfl rfl ?_
        refine wMS rfl rfl rfl rfl rfl ?_
        refine WL.want rfl (WL1.callP rfl rfl rfl (.cons (.mk (v := .slice _ _ _) rfl rfl) (.cons (.mk (v := .slice _ _ _) rfl rfl) .nil)) (fun w hw => intseq_k rfl rfl hdT (hs.below hw.1) (Sl.of_vec hw (by first | ((repeat (first | exact .head _ | apply List.Mem.tail)); done) | fail))) ?_)
        refine wAB rfl rfl rfl rfl rfl ?_
        refine WL.nil (hK _ _ ?_); clear hK
        refine WC.cond_true (.mk rfl rfl) ?_
        refine WC.seq fun K hK => ?_
        refine WC.region rfl ?_
        refine wMS rfl rfl rfl rfl rfl ?_
        refine wMS rfl rfl rfl rfl rfl ?_
        refine wG rfl rfl (g_len rfl (.mk rfl rfl) rfl) ?_
        refine wG rfl rfl (g_slice (sz := 8) (kh := .i64) (q := 0) rfl (.mk rfl rfl) rfl rfl ⟨(.mk rfl rfl), rfl⟩ rfl (by omega) (by omega)) ?_
        (refine WL.want rfl (WL1.callN rfl rfl rfl (.cons (.mk (v := .slice _ _ _) rfl rfl) .nil) (fun w hw => hcl w hw.1) ?_); rintro _ _ ⟨Ac, cc, rfl, rfl⟩)
        refine wAS rfl rfl rfl rfl rfl ?_
        refine WL.nil (hK _ _ ?_); clear hK
        refine WC.seq fun K hK => ?_
        refine WC.region rfl ?_
        refine wMS rfl rfl rfl rfl rfl ?_
        refine wG rfl rfl (g_len rfl (.mk rfl rfl) rfl) ?_
        refine wMI rfl rfl rfl rfl rfl ?_
        refine WL.nil (hK _ _ ?_); clear hK
        refine WC.block ?_
        refine WC.loopF3 (fun (i : Nat) (F : Option Addr) (fc : Nat) => [(141, iv i), (140, iv T.length), (139, .slice At T.length ct), (19, .slice F 3 fc), (13, .slice At T.length ct), (10, cellPtr (some ⟨b10, 0, none⟩) 0), (0, iv ((N + 3 : Nat) : Int)), (2, .slice B O.length d)]) (fun i F fc => [mp Tryz.prog 3 b51 l.length (mD l l.length), vec F 3 fc 41 8 (kvs (dltP l O T i)), vec At T.length ct 3 1 (ldv T), pt b10 113 [.map (some b51)]]) (fun i _ _ => i ≤ T.length) (fun i _ _ => T.length - i) 0 Ac cc (by repeat (first | exact trivial | refine ⟨rfl, ?_⟩)) (Imp.pick (by repeat (first | exact .head | apply Take.tail)) (Imp.pick (by repeat (first | exact .head | apply Take.tail)) (Imp.pick (by repeat (first | exact .head | apply Take.tail)) (Imp.pick (by repeat (first | exact .head | apply Take.tail)) (Imp.nil _))))) (by omega) ?_
        intro i F fc U3 hi3
        have hdl := dltP_len l O T hOl i
        by_cases hlt3 : i < T.length
        · have hgt := ldv_get (ld := T) (k := i) hlt3
          have hz13 := hTlt i hlt3
          have hst : upd (dltP l O T i) (nth T i) (nth O i + lstB l (nth T i)) = dltP l O T (i + 1) := rfl
          have gO : ∀ t u, (nth O i).cells[t]? = some u → (kvs O)[i * 8 + t]? = some u := fun t u h => flat_row blk8 (by omega) t u h
          have hat := mD_at l (nth T i : Nat) l.length
          have hll : ((lastC l ((nth T i : Nat) : Int) l.length).getD 0) = lstB l (nth T i) := rfl
          rw [hll] at hat
          have hkz := key_nat (i := nth T i) (by omega)
          obtain ⟨z, hz⟩ : ∃ z, z = nth T i := ⟨_, rfl⟩
          obtain ⟨y, hy⟩ : ∃ y, y = nth O i := ⟨_, rfl⟩
          rw [← hz] at hgt hst hz13 hat hkz
          rw [← hy] at gO hst
          obtain ⟨x, hx⟩ : ∃ x, x = lstB l z := ⟨_, rfl⟩
          rw [← hx] at hat hst
          have hup := fun w v h => update_n v (dltP l O T i) z y x w h hdl (by omega)
          rw [hst, hdl] at hup
          clear hx hy hz hst hll hcl hpt
          refine WC.seq fun K hK => ?_
          refine WC.region rfl ?_
          refine wG rfl rfl (g_lt rfl (.mk rfl rfl) (.mk rfl rfl) (decide_eq_true (by omega))) ?_
          refine WL.nil (hK _ _ ?_); clear hK
          refine WC.seq fun K hK => ?_
          refine WC.cond_true (.mk rfl rfl) ?_
          refine WC.skip ?_
          (refine hK _ _ ?_; clear hK)
          refine WC.seq fun K hK => ?_
          refine WC.block ?_
          refine WC.seq fun K hK => ?_
          refine WC.region rfl ?_
          refine wMI rfl rfl rfl rfl rfl ?_
          refine wG rfl rfl (g_indexAddr (sz := 1) rfl (.mk rfl rfl) (.mk rfl rfl) rfl rfl rfl (by omega) (fun w hw => vec_some hw (.tail _ (.tail _ (.head _))) (by omega))) ?_
          refine wG rfl rfl (g_load rfl (.mk rfl rfl) rfl (rd_vec (by first | ((repeat (first | exact .head _ | apply List.Mem.tail)); done) | fail) hgt)) ?_
          refine wAI rfl rfl rfl rfl rfl ?_
          refine wAI rfl rfl rfl rfl rfl ?_
          refine WL.nil (hK _ _ ?_); clear hK
          refine WC.held [mp Tryz.prog 3 b51 l.length (mD l l.length), vec F 3 fc 41 8 (kvs (dltP l O T i)), vec At T.length ct 3 1 (ldv T), pt b10 113 [.map (some b51)]] rfl (by kernel_rfl) ?_
          refine WH.take 0 rfl (by decide +kernel) (by decide +kernel) (by decide +kernel) rfl rfl (Imp.sub (by first | ((repeat (first | exact List.nil_sublist _ | exact List.Sublist.refl _ | apply List.Sublist.cons_cons | apply List.Sublist.cons)); done) | fail)) (g_move rfl (.mk (v := .slice _ _ _) rfl rfl)) ?_
          refine WH.take 1 rfl (by decide +kernel) (by decide +kernel) (by decide +kernel) rfl rfl (Imp.sub (by first | ((repeat (first | exact List.nil_sublist _ | exact List.Sublist.refl _ | apply List.Sublist.cons_cons | apply List.Sublist.cons)); done) | fail)) (g_move rfl (.mk (v := .int _ _) rfl rfl)) ?_
          refine WH.take 2 rfl (by decide +kernel) (by decide +kernel) (by decide +kernel) rfl rfl (Imp.sub (by first | ((repeat (first | exact List.nil_sublist _ | exact List.Sublist.refl _ | apply List.Sublist.cons_cons | apply List.Sublist.cons)); done) | fail)) (g_move rfl (.mk (v := .slice _ _ _) rfl rfl)) ?_
          refine WH.take 3 rfl (by decide +kernel) (by decide +kernel) (by decide +kernel) rfl rfl (Imp.sub (by first | ((repeat (first | exact List.nil_sublist _ | exact List.Sublist.refl _ | apply List.Sublist.cons_cons | apply List.Sublist.cons)); done) | fail)) (g_move rfl (.mk (v := .int _ _) rfl rfl)) ?_
          refine WH.take 4 rfl (by decide +kernel) (by decide +kernel) (by decide +kernel) rfl rfl (Imp.sub (by first | ((repeat (first | exact List.nil_sublist _ | exact List.Sublist.refl _ | apply List.Sublist.cons_cons | apply List.Sublist.cons)); done) | fail)) (g_indexAddr (sz := 8) rfl (.mk rfl rfl) (.mk rfl rfl) rfl rfl rfl (by omega) (fun _ _ => sl_some hsb (by omega))) ?_
          refine WH.take 5 rfl (by decide +kernel) (by decide +kernel) (by decide +kernel) rfl rfl (Imp.sub (by first | ((repeat (first | exact List.nil_sublist _ | exact List.Sublist.refl _ | apply List.Sublist.cons_cons | apply List.Sublist.cons)); done) | fail)) (g_loadA rfl (.mk rfl rfl) rfl (sz8 _) (rdr_sl (cs := y.cells) hsb (by omega) gO)) ?_
          refine WH.take 6 rfl (by decide +kernel) (by decide +kernel) (by decide +kernel) rfl rfl (Imp.sub (by first | ((repeat (first | exact List.nil_sublist _ | exact List.Sublist.refl _ | apply List.Sublist.cons_cons | apply List.Sublist.cons)); done) | fail)) (g_load rfl (.mk rfl rfl) rfl (rd_pt (.tail _ (.tail _ (.tail _ (.head _)))) rfl)) ?_
          refine WH.take 7 rfl (by decide +kernel) (by decide +kernel) (by decide +kernel) rfl rfl (Imp.sub (by first | ((repeat (first | exact List.nil_sublist _ | exact List.Sublist.refl _ | apply List.Sublist.cons_cons | apply List.Sublist.cons)); done) | fail)) (g_move rfl (.mk (v := .int _ _) rfl rfl)) ?_
          refine WH.take 8 rfl (by decide +kernel) (by decide +kernel) (by decide +kernel) rfl rfl (Imp.sub (by first | ((repeat (first | exact List.nil_sublist _ | exact List.Sublist.refl _ | apply List.Sublist.cons_cons | apply List.Sublist.cons)); done) | fail)) (g_look (z := kv 0) (by first | ((repeat (first | exact .head _ | apply List.Mem.tail)); done) | fail) rfl (.mk rfl rfl) (.mk rfl rfl) kI rfl kv_zero hkz hat) ?_
          refine WH.one 9 (by decide +kernel) rfl rfl ?_
          (refine WL1.callN rfl rfl rfl (.cons (.mk (v := .slice _ _ _) rfl rfl) (.cons (.mk (v := .int _ _) rfl rfl) (.cons (.mk (v := .agg _) rfl rfl) (.cons (.mk (v := .agg _) rfl rfl) .nil)))) (fun w hw => hup w _ (Sl.of_vec hw (by first | ((repeat (first | exact .head _ | apply List.Mem.tail)); done) | fail))) ?_; rintro _ _ ⟨Au, cu, rfl, rfl⟩)
          refine WL.nil ?_
          refine ⟨(Imp.sub (by first | ((repeat (first | exact List.nil_sublist _ | exact List.Sublist.refl _ | apply List.Sublist.cons_cons | apply List.Sublist.cons)); done) | fail)), ?_⟩
          refine WH.take 10 rfl (by decide +kernel) (by decide +kernel) (by decide +kernel) rfl rfl (Imp.sub (by first | ((repeat (first | exact List.nil_sublist _ | exact List.Sublist.refl _ | apply List.Sublist.cons_cons | apply List.Sublist.cons)); done) | fail)) (g_move rfl (.mk (v := .tuple _) rfl rfl)) ?_
          refine WH.take 11 rfl (by decide +kernel) (by decide +kernel) (by decide +kernel) rfl rfl (Imp.sub (by first | ((repeat (first | exact List.nil_sublist _ | exact List.Sublist.refl _ | apply List.Sublist.cons_cons | apply List.Sublist.cons)); done) | fail)) (g_extract rfl (.mk rfl rfl) rfl) ?_
          refine WH.take 12 rfl (by decide +kernel) (by decide +kernel) (by decide +kernel) rfl rfl (Imp.sub (by first | ((repeat (first | exact List.nil_sublist _ | exact List.Sublist.refl _ | apply List.Sublist.cons_cons | apply List.Sublist.cons)); done) | fail)) (g_extract rfl (.mk rfl rfl) rfl) ?_
          refine WH.take 13 rfl (by decide +kernel) (by decide +kernel) (by decide +kernel) rfl rfl (Imp.sub (by first | ((repeat (first | exact List.nil_sublist _ | exact List.Sublist.refl _ | apply List.Sublist.cons_cons | apply List.Sublist.cons)); done) | fail)) (g_assign rfl (.mk (v := .slice _ _ _) rfl rfl)) ?_
          refine WH.done (by decide +kernel) ?_
          (refine hK _ _ ?_; clear hK)
          refine WC.region rfl ?_
          refine wG rfl rfl (g_add rfl (.mk rfl rfl) (.mk rfl rfl) (IntWalk.i64_in _ (by omega))) ?_
          refine wMI rfl rfl rfl rfl rfl ?_
          refine WL.nil ?_
          exact ⟨i + 1, Au, cu, (by repeat (first | exact trivial | refine ⟨rfl, ?_⟩)), Imp.pick (by repeat (first | exact .head | apply Take.tail)) (Imp.pick (by repeat (first | exact .head | apply Take.tail)) (Imp.pick (by repeat (first | exact .head | apply Take.tail)) (Imp.pick (by repeat (first | exact .head | apply Take.tail)) (Imp.nil _)))), by omega, by omega⟩
        · obtain rfl : i = T.length := by omega
          refine WC.seq fun K hK => ?_
          refine WC.region rfl ?_
          refine wG rfl rfl (g_lt rfl (.mk rfl rfl) (.mk rfl rfl) (decide_eq_false (by omega))) ?_
          refine WL.nil (hK _ _ ?_); clear hK
          refine WC.seq fun K hK => ?_
          refine WC.cond_false (.mk rfl rfl) ?_
          refine WC.exit ?_
          exact ⟨(F, fc, dltP l O T T.length), (by repeat (first | exact trivial | refine ⟨rfl, ?_⟩)), Imp.pick (by repeat (first | exact .head | apply Take.tail)) (Imp.pick (by repeat (first | exact .head | apply Take.tail)) (Imp.pick (by repeat (first | exact .head | apply Take.tail)) (Imp.pick (by repeat (first | exact .head | apply Take.tail)) (Imp.nil _)))), hp, hdl⟩
      · have hcmp := hcmp.trans (if_neg hA)
        have hdT : decide (R = ints Dl) = false := decide_eq_false hA
        refine WC.seq fun K hK => ?_
        refine WC.region rfl ?_
        refine wMS rfl rfl rfl rfl rfl ?_
        refine wMS rfl rfl rfl rfl rfl ?_
        refine WL.want rfl (WL1.callP rfl rfl rfl (.cons (.mk (v := .slice _ _ _) rfl rfl) (.cons (.mk (v := .slice _ _ _) rfl rfl) .nil)) (fun w hw => intseq_k rfl rfl hdT (hs.below hw.1) (Sl.of_vec hw (by first | ((repeat (first | exact .head _ | apply List.Mem.tail)); done) | fail))) ?_)
        refine wAB rfl rfl rfl rfl rfl ?_
        refine WL.nil (hK _ _ ?_); clear hK
        refine WC.cond_false (.mk rfl rfl) ?_
        refine WC.seq fun K hK => ?_
        refine WC.region rfl ?_
        refine wMI rfl rfl rfl rfl rfl ?_
        refine wG rfl rfl (g_sub rfl (.mk rfl rfl) (.mk rfl rfl) hsub) ?_
        refine WL.want rfl (WL1.make elK rfl rfl (.mk rfl rfl) (.mk rfl rfl) rfl rfl (by omega) (by unfold maxLen; omega) (fun b85 => ?_))
        refine wAS rfl rfl rfl rfl rfl ?_
        refine WL.nil (hK _ _ ?_); clear hK
        refine WC.seqF (fun q : Option Addr × Nat × List Blk => [(22, .slice q.1 N q.2.1), (13, .slice At T.length ct), (10, cellPtr (some ⟨b10, 0, none⟩) 0), (0, iv ((N + 3 : Nat) : Int))]) (fun q => [mp Tryz.prog 3 b51 l.length (mD l l.length), vec q.1 N q.2.1 41 8 (kvs q.2.2), vec At T.length ct 3 1 (ldv T), pt b10 113 [.map (some b51)]]) (fun q => cmpP N R O l = some (enc (datP q.2.2 l l.length)) ∧ q.2.2.length = N) ?_ (fun q U2 hq => ?_)
        rotate_left
        refine WC.seq fun K hK => ?_
        rotate_left
        · by_cases hB : R = ints Rs
          · have hp := (hcmp.trans (if_pos hB))
            have hdR : decide (R = ints Rs) = true := decide_eq_true hB
            have hnat : nats R = Rs := by rw [hB, nats_ints]
            have hRlen : R.length = Rs.length := by rw [hB, ints_len]
            have hz1 := zeros_made N
            have hr0 : kvs (List.replicate N 0) = kvs (rsP N O Rs 0) := rfl
            rw [hr0] at hz1
            rw [hnat, hRlen] at hp
            clear hcmp
            rw [hz1]
            refine WC.seq fun K hK => ?_
            refine WC.region rfl ?_
            refine wMS rfl rfl rfl rfl rfl ?_
            refine wMS rfl rfl rfl rfl rfl ?_
            refine WL.want rfl (WL1.callP rfl rfl rfl (.cons (.mk (v := .slice _ _ _) rfl rfl) (.cons (.mk (v := .slice _ _ _) rfl rfl) .nil)) (fun w hw => intseq_k rfl rfl hdR (hs.below hw.1) (Sl.of_vec hw (by first | ((repeat (first | exact .head _ | apply List.Mem.tail)); done) | fail))) ?_)
            refine WL.nil (hK _ _ ?_); clear hK
            refine WC.cond_true (.mk rfl rfl) ?_
            refine WC.seq fun K hK => ?_
            refine WC.region rfl ?_
            refine wMS rfl rfl rfl rfl rfl ?_
            refine wG rfl rfl (g_len rfl (.mk rfl rfl) rfl) ?_
            refine wMI rfl rfl rfl rfl rfl ?_
            refine WL.nil (hK _ _ ?_); clear hK
            refine WC.block ?_
            refine WC.loopF (fun i : Nat => [(91, iv i), (90, iv Rs.length), (89, .slice Ar Rs.length cr), (22, .slice (some ⟨b85, 0, none⟩) N N), (13, .slice At T.length ct), (10, cellPtr (some ⟨b10, 0, none⟩) 0), (0, iv ((N + 3 : Nat) : Int)), (2, .slice B O.length d)]) (fun i => [mp Tryz.prog 3 b51 l.length (mD l l.length), vec (some ⟨b85, 0, none⟩) N N 41 8 (kvs (rsP N O Rs i)), vec Ar Rs.length cr 3 1 (ldv Rs), vec At T.length ct 3 1 (ldv T), pt b10 113 [.map (some b51)]]) (fun i => i ≤ Rs.length) (fun i => Rs.length - i) 0 (by repeat (first | exact trivial | refine ⟨rfl, ?_⟩)) (Imp.pick (by repeat (first | exact .head | apply Take.tail)) (Imp.pick (by repeat (first | exact .head | apply Take.tail)) (Imp.pick (by repeat (first | exact .head | apply Take.tail)) (Imp.pick (by repeat (first | exact .head | apply Take.tail)) (Imp.pick (by repeat (first | exact .head | apply Take.tail)) (Imp.nil _)))))) (by omega) ?_
            intro i U3 hi3
            by_cases hlt3 : i < Rs.length
            · have hgv := ldv_get (ld := Rs) (k := i) hlt3
              have hzn := hRsN i hlt3
              have hrl := rsP_len N O Rs i
              have hlk : (kvs (rsP N O Rs i)).length = N * 8 := by rw [kvs_len, rsP_len]
              have gO : ∀ t u, (nth O i).cells[t]? = some u → (kvs O)[i * 8 + t]? = some u := fun t u h => flat_row blk8 (by omega) t u h
              have hs1 : (rsP N O Rs i).set (nth Rs i) (nth O i) = rsP N O Rs (i + 1) := rfl
              obtain ⟨z, hz⟩ : ∃ z, z = nth Rs i := ⟨_, rfl⟩
              obtain ⟨y, hy⟩ : ∃ y, y = nth O i := ⟨_, rfl⟩
              rw [← hz] at hgv hzn hs1
              rw [← hy] at gO hs1
              have hsp : spl (kvs (rsP N O Rs i)) (z * 8) y.cells = kvs (rsP N O Rs (i + 1)) := by rw [kvs_put (l := rsP N O Rs i) (k := z) (b := y) (by omega) rfl rfl, hs1]
              have hy8 := Blk.len y
              clear hy hz hs1
              refine WC.seq fun K hK => ?_
              refine WC.region rfl ?_
              refine wG rfl rfl (g_lt rfl (.mk rfl rfl) (.mk rfl rfl) (decide_eq_true (by omega))) ?_
              refine WL.nil (hK _ _ ?_); clear hK
              refine WC.seq fun K hK => ?_
              refine WC.cond_true (.mk rfl rfl) ?_
              refine WC.skip ?_
              (refine hK _ _ ?_; clear hK)
              refine WC.seq fun K hK => ?_
              refine WC.block ?_
              refine WC.seq fun K hK => ?_
              refine WC.region rfl ?_
              refine wMI rfl rfl rfl rfl rfl ?_
              refine wG rfl rfl (g_indexAddr (sz := 1) rfl (.mk rfl rfl) (.mk rfl rfl) rfl rfl rfl (by omega) (fun w hw => vec_some hw (.tail _ (.tail _ (.head _))) (by omega))) ?_
              refine wG rfl rfl (g_load rfl (.mk rfl rfl) rfl (rd_vec (by first | ((repeat (first | exact .head _ | apply List.Mem.tail)); done) | fail) hgv)) ?_
              refine wAI rfl rfl rfl rfl rfl ?_
              refine wAI rfl rfl rfl rfl rfl ?_
              refine WL.nil (hK _ _ ?_); clear hK
              refine WC.region rfl ?_
              refine wMS rfl rfl rfl rfl rfl ?_
              refine wMI rfl rfl rfl rfl rfl ?_
              refine wMS rfl rfl rfl rfl rfl ?_
              refine wMI rfl rfl rfl rfl rfl ?_
              refine wG rfl rfl (g_indexAddr (sz := 8) rfl (.mk rfl rfl) (.mk rfl rfl) rfl rfl rfl (by omega) (fun _ _ => sl_some hsb (by omega))) ?_
              refine wG rfl rfl (g_loadA rfl (.mk rfl rfl) rfl (sz8 _) (rdr_sl (cs := y.cells) hsb (by omega) gO)) ?_
              refine wG rfl rfl (g_indexAddr (sz := 8) rfl (.mk rfl rfl) (.mk rfl rfl) rfl rfl rfl (by omega) (fun _ _ => rfl)) ?_
              refine WL.want rfl (WL1.storeVA rfl rfl (.mk rfl rfl) (.mk rfl rfl) (sz8 _) (Blk.one _) (by first | decide | omega | exact Nat.le_of_ble_eq_true rfl | (simp; done) | (simp; omega) | (rw [Blk.len]; omega)) (by first | omega | (rw [Blk.len]; omega) | (simp; done) | (simp; omega)) (.tail (.head)) ?_)
              refine WL.nil (hK _ _ ?_); clear hK
              refine WC.region rfl ?_
              refine wG rfl rfl (g_add rfl (.mk rfl rfl) (.mk rfl rfl) (IntWalk.i64_in _ (by omega))) ?_
              refine wMI rfl rfl rfl rfl rfl ?_
              refine WL.nil ?_
              exact ⟨i + 1, (by repeat (first | exact trivial | refine ⟨rfl, ?_⟩)), by rw [← hsp]; exact Imp.pick (by repeat (first | exact .head | apply Take.tail)) (Imp.pick (by repeat (first | exact .head | apply Take.tail)) (Imp.pick (by repeat (first | exact .head | apply Take.tail)) (Imp.pick (by repeat (first | exact .head | apply Take.tail)) (Imp.pick (by repeat (first | exact .head | apply Take.tail)) (Imp.nil _))))), by omega, by omega⟩
            · obtain rfl : i = Rs.length := by omega
              refine WC.seq fun K hK => ?_
              refine WC.region rfl ?_
              refine wG rfl rfl (g_lt rfl (.mk rfl rfl) (.mk rfl rfl) (decide_eq_false (by omega))) ?_
              refine WL.nil (hK _ _ ?_); clear hK
              refine WC.seq fun K hK => ?_
              refine WC.cond_false (.mk rfl rfl) ?_
              refine WC.exit ?_
              exact ⟨(some ⟨b85, 0, none⟩, N, rsP N O Rs Rs.length), (by repeat (first | exact trivial | refine ⟨rfl, ?_⟩)), Imp.pick (by repeat (first | exact .head | apply Take.tail)) (Imp.pick (by repeat (first | exact .head | apply Take.tail)) (Imp.pick (by repeat (first | exact .head | apply Take.tail)) (Imp.pick (by repeat (first | exact .head | apply Take.tail)) (Imp.nil _)))), hp, rsP_len N O Rs Rs.length⟩
          · have hcmp := hcmp.trans (if_neg hB)
            have hdR : decide (R = ints Rs) = false := decide_eq_false hB
            by_cases hok : R.length = N ∧ ∀ i, i < N → okR (N + 3) R i
            · have hp := hcmp.trans (if_pos hok)
              have hfr := fun w' hb => gfrom_n (w := w') hN1 hN2 hRO hok.1 hok.2 (hs.below hb) (hsb.below hb)
              clear hcmp
              refine WC.seq fun K hK => ?_
              refine WC.region rfl ?_
              refine wMS rfl rfl rfl rfl rfl ?_
              refine wMS rfl rfl rfl rfl rfl ?_
              refine WL.want rfl (WL1.callP rfl rfl rfl (.cons (.mk (v := .slice _ _ _) rfl rfl) (.cons (.mk (v := .slice _ _ _) rfl rfl) .nil)) (fun w hw => intseq_k rfl rfl hdR (hs.below hw.1) (Sl.of_vec hw (by first | ((repeat (first | exact .head _ | apply List.Mem.tail)); done) | fail))) ?_)
              refine WL.nil (hK _ _ ?_); clear hK
              refine WC.cond_false (.mk rfl rfl) ?_
              refine WC.seq fun K hK => ?_
              refine WC.region rfl ?_
              refine wMI rfl rfl rfl rfl rfl ?_
              refine wMS rfl rfl rfl rfl rfl ?_
              refine wMS rfl rfl rfl rfl rfl ?_
              (refine WL.want rfl (WL1.callN rfl rfl rfl (.cons (.mk (v := .int _ _) rfl rfl) (.cons (.mk (v := .slice _ _ _) rfl rfl) (.cons (.mk (v := .slice _ _ _) rfl rfl) .nil))) (fun w hw => hfr w hw.1) ?_); rintro _ _ ⟨Af, cf, rfl, rfl⟩)
              refine wG rfl rfl (g_move rfl (.mk (v := .tuple _) rfl rfl)) ?_
              refine wG rfl rfl (g_extract rfl (.mk rfl rfl) rfl) ?_
              refine wG rfl rfl (g_extract rfl (.mk rfl rfl) rfl) ?_
              refine wAS rfl rfl rfl rfl rfl ?_
              refine wAB rfl rfl rfl rfl rfl ?_
              refine WL.nil (hK _ _ ?_); clear hK
              refine WC.seq fun K hK => ?_
              refine WC.seq fun K hK => ?_
              refine WC.region rfl ?_
              refine wMB rfl rfl rfl rfl rfl ?_
              refine wG rfl rfl (g_notT rfl (.mk rfl rfl)) ?_
              refine WL.nil (hK _ _ ?_); clear hK
              refine WC.cond_false (.mk rfl rfl) ?_
              refine WC.skip ?_
              (refine hK _ _ ?_; clear hK)
              refine WC.region rfl ?_
              refine wMS rfl rfl rfl rfl rfl ?_
              refine wAS rfl rfl rfl rfl rfl ?_
              refine WL.nil ?_
              exact ⟨(Af, cf, frD N O R), (by repeat (first | exact trivial | refine ⟨rfl, ?_⟩)), Imp.pick (by repeat (first | exact .head | apply Take.tail)) (Imp.pick (by repeat (first | exact .head | apply Take.tail)) (Imp.pick (by repeat (first | exact .head | apply Take.tail)) (Imp.pick (by repeat (first | exact .head | apply Take.tail)) (Imp.nil _)))), hp, frD_len N O R⟩
            · have hno := hcmp.trans (if_neg hok)
              have hfr := fun w' hb => gfrom_bad (w := w') hN1 hN2 hRO hok hR40 (hs.below hb) (hsb.below hb)
              clear hcmp
              refine WC.seq fun K hK => ?_
              refine WC.region rfl ?_
              refine wMS rfl rfl rfl rfl rfl ?_
              refine wMS rfl rfl rfl rfl rfl ?_
              refine WL.want rfl (WL1.callP rfl rfl rfl (.cons (.mk (v := .slice _ _ _) rfl rfl) (.cons (.mk (v := .slice _ _ _) rfl rfl) .nil)) (fun w hw => intseq_k rfl rfl hdR (hs.below hw.1) (Sl.of_vec hw (by first | ((repeat (first | exact .head _ | apply List.Mem.tail)); done) | fail))) ?_)
              refine WL.nil (hK _ _ ?_); clear hK
              refine WC.cond_false (.mk rfl rfl) ?_
              refine WC.seq fun K hK => ?_
              refine WC.region rfl ?_
              refine wMI rfl rfl rfl rfl rfl ?_
              refine wMS rfl rfl rfl rfl rfl ?_
              refine wMS rfl rfl rfl rfl rfl ?_
              refine WL.want rfl (WL1.callP rfl rfl rfl (.cons (.mk (v := .int _ _) rfl rfl) (.cons (.mk (v := .slice _ _ _) rfl rfl) (.cons (.mk (v := .slice _ _ _) rfl rfl) .nil))) (fun w hw => hfr w hw.1) ?_)
              refine wG rfl rfl (g_move rfl (.mk (v := .tuple _) rfl rfl)) ?_
              refine wG rfl rfl (g_extract rfl (.mk rfl rfl) rfl) ?_
              refine wG rfl rfl (g_extract rfl (.mk rfl rfl) rfl) ?_
              refine wAS rfl rfl rfl rfl rfl ?_
              refine wAB rfl rfl rfl rfl rfl ?_
              refine WL.nil (hK _ _ ?_); clear hK
              refine WC.seq fun K hK => ?_
              refine WC.seq fun K hK => ?_
              refine WC.region rfl ?_
              refine wMB rfl rfl rfl rfl rfl ?_
              refine wG rfl rfl (g_notF rfl (.mk rfl rfl)) ?_
              refine WL.nil (hK _ _ ?_); clear hK
              refine WC.cond_true (.mk rfl rfl) ?_
              refine WC.seq fun K hK => ?_
              refine WC.region rfl ?_
              refine wAS rfl rfl rfl rfl rfl ?_
              refine wAI rfl rfl rfl rfl rfl ?_
              refine WL.nil (hK _ _ ?_); clear hK
              refine WC.ret ?_
              exact fun w' hw' => ⟨_, _, rfl, hw', .inr ⟨hno, rfl⟩⟩
        · obtain ⟨Af, cf, Df⟩ := q
          obtain ⟨hp, hDf⟩ := hq
          dsimp only at hp hDf ⊢
          have hm0 : mxD l Df (Maps.has (mD l l.length)) = Df := mxD_start
          clear hcmp hRsN hs hsb
          refine WC.seq fun K hK => ?_
          refine WC.region rfl ?_
          refine wG rfl rfl (g_load rfl (.mk rfl rfl) rfl (rd_pt (.tail _ (.tail _ (.tail _ (.head _)))) rfl)) ?_
          refine WL.want rfl (WL1.range rfl rfl (.mk rfl rfl) kI rfl (fun r115 => ?_))
          refine WL.nil (hK _ _ ?_); clear hK
          refine WC.block ?_
          refine WC.loopF2 (fun (left : Lit → Bool) (cnt : Nat) => [(115, .pointer (some ⟨r115, 0, none⟩)), (22, .slice Af N cf), (13, .slice At T.length ct), (10, cellPtr (some ⟨b10, 0, none⟩) 0), (0, iv ((N + 3 : Nat) : Int))]) (fun left cnt => [rgA Tryz.prog 3 b51 r115 l.length (mD l l.length) left cnt, vec Af N cf 41 8 (kvs (mxD l Df left)), vec At T.length ct 3 1 (ldv T), pt b10 113 [.map (some b51)]]) (fun left _ => ∀ kl, left kl = true → Maps.has (mD l l.length) kl = true) (fun _ cnt => cnt) (Maps.has (mD l l.length)) (Maps.size (mD l l.length)) (by repeat (first | exact trivial | refine ⟨rfl, ?_⟩)) (by rw [hm0]; exact .refl _) (fun _ h => h) ?_
          intro left cnt U3 hpre
          have hml : (mxD l Df left).length = N := by rw [mxD_len, hDf]
          have hmk : (kvs (mxD l Df left)).length = N * 8 := by rw [kvs_len, hml]
          have hen : ∀ (v : Value) (w' : World), Sl w' 8 v N (kvs (mxD l Df left)) → Calls Tryz.prog 28 #[v] w' fun e w2 => ∃ v' M, e = .returned v' ∧ H w' M w2 ∧ ∃ b, v' = .tuple #[.slice (some ⟨b, 0, none⟩) 3 3, iv 0] ∧ M = [vec (some ⟨b, 0, none⟩) 3 3 41 8 (kvs (enc (mxD l Df left)))] := fun v w' h => encode_n v (mxD l Df left) w' (by rw [hml]; exact h) (by omega) (by omega)
          refine WC.seq fun K hK => ?_
          refine WC.region rfl ?_
          refine WL.want rfl (WL1.next rfl rfl (.mk rfl rfl) kI (fun h0 hle => ?_) (fun key v kl cnt2 hkey hlk hat hlt => ?_))
          refine wG rfl rfl (g_extract rfl (.mk rfl rfl) rfl) ?_
          refine WL.nil (hK _ _ ?_); clear hK
          refine WC.seq fun K hK => ?_
          refine WC.cond_false (.mk rfl rfl) ?_
          refine WC.exit ?_
          (clear hK; refine hK _ _ ?_; clear hK)
          refine WC.region rfl ?_
          refine wMS rfl rfl rfl rfl rfl ?_
          (refine WL.want rfl (WL1.callN rfl rfl rfl (.cons (.mk (v := .slice _ _ _) rfl rfl) .nil) (fun w hw => hen _ w (Sl.of_vec hw (by first | ((repeat (first | exact .head _ | apply List.Mem.tail)); done) | fail))) ?_); rintro _ _ ⟨bq, rfl, rfl⟩)
          refine wG rfl rfl (g_move rfl (.mk (v := .tuple _) rfl rfl)) ?_
          refine wG rfl rfl (g_extract rfl (.mk rfl rfl) rfl) ?_
          refine wG rfl rfl (g_extract rfl (.mk rfl rfl) rfl) ?_
          refine wAS rfl rfl rfl rfl rfl ?_
          refine WL.nil ?_
          rotate_left
          refine wG rfl rfl (g_extract rfl (.mk rfl rfl) rfl) ?_
          refine WL.nil (hK _ _ ?_); clear hK
          refine WC.seq fun K hK => ?_
          refine WC.cond_true (.mk rfl rfl) ?_
          refine WC.skip ?_
          (refine hK _ _ ?_; clear hK)
          refine WC.block ?_
          rotate_left
          · exact ⟨(some ⟨bq, 0, none⟩, 3, enc (mxD l Df left)), (by repeat (first | exact trivial | refine ⟨rfl, ?_⟩)), Imp.rgT (by repeat (first | exact .head | apply Take.tail)) (Imp.pick (by repeat (first | exact .head | apply Take.tail)) (Imp.pick (by repeat (first | exact .head | apply Take.tail)) (Imp.pick (by repeat (first | exact .head | apply Take.tail)) (Imp.nil _)))), by rw [mxD_end (by rw [hDf]; exact ho) hle]; exact hp, enc3 _⟩
          · obtain ⟨x, rfl, rfl, hwf⟩ := Maps.keyOf_int_inv (q := .i64) (by kernel_rfl) hkey
            have hh := hpre _ hlk
            rw [mD_has] at hh
            obtain ⟨k0, hk0, hs0⟩ := lastC_some hh
            have hq0 := okC_each ho hk0
            obtain ⟨z, rfl⟩ : ∃ z : Nat, x = z := ⟨x.toNat, by omega⟩
            have hzN : z < N := by omega
            have h2 := hat (.held (kv 0))
            rw [mD_at] at h2
            obtain rfl : v = kv (lstB l z) := by
              injection h2 with h2
              exact h2.symm
            have hs1 := mxD_step (ds := Df) (left := left) hh (by omega)
            obtain ⟨left2, hl2⟩ : ∃ left2 : Lit → Bool, left2 = fun x => left x && !x.sameKey (.int .i64 (z : Int)) := ⟨_, rfl⟩
            have hpre2 : ∀ kl, left2 kl = true → Maps.has (mD l l.length) kl = true := fun kl h => hpre kl (by rw [hl2, Bool.and_eq_true] at h; exact h.1)
            rw [← hl2] at hs1 ⊢
            obtain ⟨y, hy⟩ : ∃ y, y = lstB l z := ⟨_, rfl⟩
            rw [← hy] at hs1 ⊢
            have hsp : spl (kvs (mxD l Df left)) (z * 8) y.cells = kvs (mxD l Df left2) := by rw [kvs_put (l := mxD l Df left) (k := z) (b := y) (by omega) rfl rfl, hs1]
            have hy8 := Blk.len y
            have gy : ∀ j u, y.cells[j]? = some u → y.cells[0 + (0 + j)]? = some u := fun j u h => by rw [Nat.zero_add, Nat.zero_add]; exact h
            clear hs1 hy hl2 h2 hs0 hh hlk hat hwf hkey hpre hen hq0 hk0
            refine WC.seq fun K hK => ?_
            refine WC.region rfl ?_
            refine wG rfl rfl (g_entry (by first | ((repeat (first | exact .head _ | apply List.Mem.tail)); done) | fail) rfl (.mk rfl rfl)) ?_
            refine wG rfl rfl (g_extract rfl (.mk rfl rfl) rfl) ?_
            refine wG rfl rfl (g_extract rfl (.mk rfl rfl) rfl) ?_
            refine WL.want rfl (WL1.alloc rfl rfl rfl rfl (fun b28 => ?_))
            refine wAI rfl rfl rfl rfl rfl ?_
            refine WL.want rfl (WL1.storeAll rfl rfl (.mk rfl rfl) (.mk rfl rfl) (sz8 _) y.one (by rw [Blk.len]; rfl) .head ?_)
            refine WL.nil (hK _ _ ?_); clear hK
            refine WC.region rfl ?_
            refine wMS rfl rfl rfl rfl rfl ?_
            refine wMI rfl rfl rfl rfl rfl ?_
            refine wG rfl rfl (g_loadA rfl (.mk rfl rfl) rfl (sz8 _) (rdr_pt (cs := y.cells) (by first | ((repeat (first | exact .head _ | apply List.Mem.tail)); done) | fail) gy)) ?_
            refine wG rfl rfl (g_indexAddr (sz := 8) rfl (.mk rfl rfl) (.mk rfl rfl) rfl rfl rfl (by omega) (fun w hw => vec_some hw (.tail _ (.tail _ (.head _))) (by omega))) ?_
            refine WL.want rfl (WL1.storeVA rfl rfl (.mk rfl rfl) (.mk rfl rfl) (sz8 _) (Blk.one _) (by first | decide | omega | exact Nat.le_of_ble_eq_true rfl | (simp; done) | (simp; omega) | (rw [Blk.len]; omega)) (by first | omega | (rw [Blk.len]; omega) | (simp; done) | (simp; omega)) (.tail (.tail (.head))) ?_)
            refine WL.nil ?_
            exact ⟨left2, cnt2, (by repeat (first | exact trivial | refine ⟨rfl, ?_⟩)), by rw [← hsp]; exact Imp.rgU (by repeat (first | exact .head | apply Take.tail)) (Imp.pick (by repeat (first | exact .head | apply Take.tail)) (Imp.pick (by repeat (first | exact .head | apply Take.tail)) (Imp.pick (by repeat (first | exact .head | apply Take.tail)) (Imp.nil _)))), hpre2, hlt⟩
    · obtain ⟨Ap, cp, p⟩ := q
      obtain ⟨hp, hp3⟩ := hq
      dsimp only at hp hp3 ⊢
      have hrl := resL_len l T N p
      clear hnum hdel hrst hval hch hmade hcmp hRsN hs hsb hsl
      refine WC.nilvec 55 9 ?_
      refine WC.loopF3 (fun (i : Nat) (F : Option Addr) (fc : Nat) => [(162, iv i), (161, iv T.length), (160, .slice At T.length ct), (29, .slice F i fc), (19, .slice Ap 3 cp), (10, cellPtr (some ⟨b10, 0, none⟩) 0), (0, iv ((N + 3 : Nat) : Int))]) (fun i F fc => [mp Tryz.prog 3 b51 l.length (mD l l.length), vec F i fc 55 9 (cvs ((resL l T N p).take i)), vec Ap 3 cp 41 8 (kvs p), vec At T.length ct 3 1 (ldv T), pt b10 113 [.map (some b51)]]) (fun i _ _ => i ≤ T.length) (fun i _ _ => T.length - i) 0 none 0 (by repeat (first | exact trivial | refine ⟨rfl, ?_⟩)) (Imp.pick (A := mp Tryz.prog 3 b51 l.length (mD l l.length)) (by repeat (first | exact .head | apply Take.tail)) (Imp.pick (A := vec none 0 0 55 9 []) (by repeat (first | exact .head | apply Take.tail)) (Imp.pick (by repeat (first | exact .head | apply Take.tail)) (Imp.pick (by repeat (first | exact .head | apply Take.tail)) (Imp.pick (by repeat (first | exact .head | apply Take.tail)) (Imp.nil _)))))) (by omega) ?_
      intro i F fc U3 hi3
      by_cases hlt3 : i < T.length
      · have hgt := ldv_get (ld := T) (k := i) hlt3
        have hz13 := hTlt i hlt3
        have hnx : cvs ((resL l T N p).take i) ++ Chg.cells ⟨(nth T i : Nat), lstB l (nth T i)⟩ = cvs ((resL l T N p).take (i + 1)) := by rw [cvs_snoc, ← resL_lo (N := N) (p := p) hlt3, take_snoc (by omega)]
        have hat := mD_at l (nth T i : Nat) l.length
        have hll : ((lastC l ((nth T i : Nat) : Int) l.length).getD 0) = lstB l (nth T i) := rfl
        rw [hll] at hat
        have hkz := key_nat (i := nth T i) (by omega)
        obtain ⟨z, hz⟩ : ∃ z, z = nth T i := ⟨_, rfl⟩
        rw [← hz] at hgt hz13 hat hkz hnx
        obtain ⟨y, hy⟩ : ∃ y, y = lstB l z := ⟨_, rfl⟩
        rw [← hy] at hat hnx
        clear hz hy hll
        refine WC.seq fun K hK => ?_
        refine WC.region rfl ?_
        refine wG rfl rfl (g_lt rfl (.mk rfl rfl) (.mk rfl rfl) (decide_eq_true (by omega))) ?_
        refine WL.nil (hK _ _ ?_); clear hK
        refine WC.seq fun K hK => ?_
        refine WC.cond_true (.mk rfl rfl) ?_
        refine WC.skip ?_
        (refine hK _ _ ?_; clear hK)
        refine WC.seq fun K hK => ?_
        refine WC.block ?_
        refine WC.seq fun K hK => ?_
        refine WC.region rfl ?_
        refine wG rfl rfl (g_indexAddr (sz := 1) rfl (.mk rfl rfl) (.mk rfl rfl) rfl rfl rfl (by omega) (fun w hw => vec_some hw (.tail _ (.tail _ (.tail _ (.head _)))) (by omega))) ?_
        refine wG rfl rfl (g_load rfl (.mk rfl rfl) rfl (rd_vec (by first | ((repeat (first | exact .head _ | apply List.Mem.tail)); done) | fail) hgt)) ?_
        refine wAI rfl rfl rfl rfl rfl ?_
        refine WL.nil (hK _ _ ?_); clear hK
        refine WC.region rfl ?_
        refine wMS rfl rfl rfl rfl rfl ?_
        refine wMI rfl rfl rfl rfl rfl ?_
        refine wG rfl rfl (g_load rfl (.mk rfl rfl) rfl (rd_pt (.tail _ (.tail _ (.tail _ (.tail _ (.head _))))) rfl)) ?_
        refine wMI rfl rfl rfl rfl rfl ?_
        refine wG rfl rfl (g_look (z := kv 0) (by first | ((repeat (first | exact .head _ | apply List.Mem.tail)); done) | fail) rfl (.mk rfl rfl) (.mk rfl rfl) kI rfl kv_zero hkz hat) ?_
        refine wG rfl rfl (g_buildS (us := [(0, [_]), (1, y.cells)]) (cs := Chg.cells ⟨(z : Nat), y⟩) rfl rfl rfl rfl (.cons (.mk (v := .int _ _) rfl rfl) (.cons (.mk (v := .agg _) rfl rfl) .nil)) rfl (fun p hp => by simp only [List.mem_cons, List.not_mem_nil, or_false] at hp; rcases hp with rfl | rfl <;> exact ⟨_, _, rfl, by first | rfl | exact Blk.len _, Nat.le_of_ble_eq_true rfl⟩) (chg_spls' _ _)) ?_
        refine WL.want rfl (WL1.lit elC rfl rfl rfl (.cons (.mk (v := .agg _) rfl rfl) .nil) rfl (by intro v hv; rw [List.mem_singleton] at hv; subst hv; show (Chg.cells _).toArray.size = 9; rw [List.size_toArray, Chg.len]) (List.append_nil _) rfl (fun b172 => ?_))
        refine WL.want rfl (WL1.append elC rfl rfl (.mk rfl rfl) (.mk rfl rfl) (.tail (.tail (.head))) (fun w hw => Sl.of_vec hw (.head _)) (Chg.one _) (by unfold maxLen; omega) (by omega) (fun A173 c173 => ?_))
        refine wAS rfl rfl rfl rfl rfl ?_
        refine WL.nil (hK _ _ ?_); clear hK
        refine WC.region rfl ?_
        refine wG rfl rfl (g_add rfl (.mk rfl rfl) (.mk rfl rfl) (IntWalk.i64_in _ (by omega))) ?_
        refine wMI rfl rfl rfl rfl rfl ?_
        refine WL.nil ?_
        exact ⟨i + 1, A173, c173, (by repeat (first | exact trivial | refine ⟨rfl, ?_⟩)), by rw [← hnx]; exact Imp.pick (by repeat (first | exact .head | apply Take.tail)) (Imp.pick (by repeat (first | exact .head | apply Take.tail)) (Imp.pick (by repeat (first | exact .head | apply Take.tail)) (Imp.pick (by repeat (first | exact .head | apply Take.tail)) (Imp.pick (by repeat (first | exact .head | apply Take.tail)) (Imp.nil _))))), by omega, by omega⟩
      · obtain rfl : i = T.length := by omega
        refine WC.seq fun K hK => ?_
        refine WC.region rfl ?_
        refine wG rfl rfl (g_lt rfl (.mk rfl rfl) (.mk rfl rfl) (decide_eq_false (by omega))) ?_
        refine WL.nil (hK _ _ ?_); clear hK
        refine WC.seq fun K hK => ?_
        refine WC.cond_false (.mk rfl rfl) ?_
        refine WC.exit ?_
        (clear hK; refine hK _ _ ?_; clear hK)
        refine WC.seq fun K hK => ?_
        refine WC.seq fun K hK => ?_
        refine WC.region rfl ?_
        refine wMS rfl rfl rfl rfl rfl ?_
        refine wG rfl rfl (g_len rfl (.mk rfl rfl) rfl) ?_
        refine wMI rfl rfl rfl rfl rfl ?_
        refine WL.nil (hK _ _ ?_); clear hK
        refine WC.block ?_
        refine WC.loopF3 (fun (j : Nat) (F : Option Addr) (fc : Nat) => [(177, iv j), (176, iv 3), (175, .slice Ap 3 cp), (29, .slice F (T.length + j) fc), (0, iv ((N + 3 : Nat) : Int))]) (fun j F fc => [vec F (T.length + j) fc 55 9 (cvs ((resL l T N p).take (T.length + j))), vec Ap 3 cp 41 8 (kvs p)]) (fun j _ _ => j ≤ 3) (fun j _ _ => 3 - j) 0 F fc (by repeat (first | exact trivial | refine ⟨rfl, ?_⟩)) (Imp.pick (by repeat (first | exact .head | apply Take.tail)) (Imp.pick (by repeat (first | exact .head | apply Take.tail)) (Imp.nil _))) (by omega) ?_
        intro j F2 fc2 U4 hj
        by_cases hltj : j < 3
        · have hadd : IntKind.i64.wrap ((N : Int) + (j : Int)) = ((N + j : Nat) : Int) := by rw [IntWalk.i64_in _ (by omega)]; omega
          have hnx : cvs ((resL l T N p).take (T.length + j)) ++ Chg.cells ⟨((N + j : Nat) : Int), nth p j⟩ = cvs ((resL l T N p).take (T.length + (j + 1))) := by rw [cvs_snoc, ← resL_hi (l := l) (T := T) hltj, ← Nat.add_assoc, take_snoc (by omega)]
          have gb : ∀ t u, (nth p j).cells[t]? = some u → (kvs p)[j * 8 + t]? = some u := fun t u h => flat_row blk8 (by omega) t u h
          obtain ⟨y, hy⟩ : ∃ y, y = nth p j := ⟨_, rfl⟩
          rw [← hy] at hnx gb
          have gy : ∀ j u, y.cells[j]? = some u → y.cells[0 + (0 + j)]? = some u := fun j u h => by rw [Nat.zero_add, Nat.zero_add]; exact h
          clear hy
          refine WC.seq fun K hK => ?_
          refine WC.region rfl ?_
          refine wG rfl rfl (g_lt rfl (.mk rfl rfl) (.mk rfl rfl) (decide_eq_true (by omega))) ?_
          refine WL.nil (hK _ _ ?_); clear hK
          refine WC.seq fun K hK => ?_
          refine WC.cond_true (.mk rfl rfl) ?_
          refine WC.skip ?_
          (refine hK _ _ ?_; clear hK)
          refine WC.seq fun K hK => ?_
          refine WC.block ?_
          refine WC.seq fun K hK => ?_
          refine WC.region rfl ?_
          refine wMI rfl rfl rfl rfl rfl ?_
          refine wG rfl rfl (g_indexAddr (sz := 8) rfl (.mk rfl rfl) (.mk rfl rfl) rfl rfl rfl (by omega) (fun w hw => vec_some hw (.tail _ (.head _)) (by omega))) ?_
          refine wG rfl rfl (g_loadA rfl (.mk rfl rfl) rfl (sz8 _) (rdr_vec (cs := y.cells) (by first | ((repeat (first | exact .head _ | apply List.Mem.tail)); done) | fail) (by omega) gb)) ?_
          refine WL.want rfl (WL1.alloc rfl rfl rfl rfl (fun b33 => ?_))
          refine wAI rfl rfl rfl rfl rfl ?_
          refine WL.want rfl (WL1.storeAll rfl rfl (.mk rfl rfl) (.mk rfl rfl) (sz8 _) y.one (by rw [Blk.len]; rfl) .head ?_)
          refine WL.nil (hK _ _ ?_); clear hK
          refine WC.region rfl ?_
          refine wMS rfl rfl rfl rfl rfl ?_
          refine wMI rfl rfl rfl rfl rfl ?_
          refine wG rfl rfl (g_sub rfl (.mk rfl rfl) (.mk rfl rfl) hsub) ?_
          refine wMI rfl rfl rfl rfl rfl ?_
          refine wG rfl rfl (g_add rfl (.mk rfl rfl) (.mk rfl rfl) hadd) ?_
          refine wG rfl rfl (g_loadA rfl (.mk rfl rfl) rfl (sz8 _) (rdr_pt (cs := y.cells) (by first | ((repeat (first | exact .head _ | apply List.Mem.tail)); done) | fail) gy)) ?_
          refine wG rfl rfl (g_buildS (us := [(0, [_]), (1, y.cells)]) (cs := Chg.cells ⟨((N + j : Nat) : Int), y⟩) rfl rfl rfl rfl (.cons (.mk (v := .int _ _) rfl rfl) (.cons (.mk (v := .agg _) rfl rfl) .nil)) rfl (fun p hp => by simp only [List.mem_cons, List.not_mem_nil, or_false] at hp; rcases hp with rfl | rfl <;> exact ⟨_, _, rfl, by first | rfl | exact Blk.len _, Nat.le_of_ble_eq_true rfl⟩) (chg_spls' _ _)) ?_
          refine WL.want rfl (WL1.lit elC rfl rfl rfl (.cons (.mk (v := .agg _) rfl rfl) .nil) rfl (by intro v hv; rw [List.mem_singleton] at hv; subst hv; show (Chg.cells _).toArray.size = 9; rw [List.size_toArray, Chg.len]) (List.append_nil _) rfl (fun b189 => ?_))
          refine WL.want rfl (WL1.append elC rfl rfl (.mk rfl rfl) (.mk rfl rfl) (.tail (.tail (.head))) (fun w hw => Sl.of_vec hw (.head _)) (Chg.one _) (by unfold maxLen; omega) (by omega) (fun A190 c190 => ?_))
          refine wAS rfl rfl rfl rfl rfl ?_
          refine WL.nil (hK _ _ ?_); clear hK
          refine WC.region rfl ?_
          refine wG rfl rfl (g_add rfl (.mk rfl rfl) (.mk rfl rfl) (IntWalk.i64_in _ (by omega))) ?_
          refine wMI rfl rfl rfl rfl rfl ?_
          refine WL.nil ?_
          exact ⟨j + 1, A190, c190, (by repeat (first | exact trivial | refine ⟨rfl, ?_⟩)), by rw [← hnx]; exact Imp.pick (by repeat (first | exact .head | apply Take.tail)) (Imp.pick (by repeat (first | exact .head | apply Take.tail)) (Imp.nil _)), by omega, by omega⟩
        · obtain rfl : j = 3 := by omega
          refine WC.seq fun K hK => ?_
          refine WC.region rfl ?_
          refine wG rfl rfl (g_lt rfl (.mk rfl rfl) (.mk rfl rfl) (decide_eq_false (by omega))) ?_
          refine WL.nil (hK _ _ ?_); clear hK
          refine WC.seq fun K hK => ?_
          refine WC.cond_false (.mk rfl rfl) ?_
          refine WC.exit ?_
          (clear hK; refine hK _ _ ?_; clear hK)
          refine WC.seq fun K hK => ?_
          refine WC.region rfl ?_
          refine wMS rfl rfl rfl rfl rfl ?_
          refine wAS rfl rfl rfl rfl rfl ?_
          refine wAI rfl rfl rfl rfl rfl ?_
          refine WL.nil (hK _ _ ?_); clear hK
          refine WC.ret ?_
          exact fun w' hw' => ⟨_, _, rfl, Imp.h (Imp.pick (A := vec F2 (T.length + 3) fc2 55 9 (cvs ((resL l T N p).take (T.length + 3)))) (by repeat (first | exact .head | apply Take.tail)) (Imp.nil _)) hw', .inl ⟨p, hp, F2, fc2, rfl, by rw [List.take_of_length_le (by omega)]⟩⟩
end
end Go.Proofs.YtdcijljfgcjelaaGreat
namespace Go.Proofs.YtdcijljfgcjelaaGreat
set_option maxRecDepth 20000
open Go.RowKit
section
variable {w : World} {A B D : Option Addr} {c d e N tl : Nat} {R : List Int} {O p : List Blk} {l : List Chg}
theorem compute_s (hc : cmpP N R O l = some p) (ht : (tch l (N + 3)).length = tl) (hN1 : 1 ≤ N) (hN2 : N ≤ 13) (ho : okC ((N + 3 : Nat) : Int) l = true) (hl : l.length ≠ 0) (hll : l.length ≤ 1000000) (hRO : R.length = O.length) (hR40 : R.length ≤ 1000) (hs : Sl w 1 (.slice A R.length c) R.length (ivs R)) (hsb : Sl w 8 (.slice B O.length d) O.length (kvs O)) (hsl : Sl w 9 (.slice D l.length e) l.length (cvs l)) :
    Calls Tryz.prog 17 #[iv ((N + 3 : Nat) : Int), .slice A R.length c, .slice B O.length d, .slice D l.length e] w fun en w' => ∃ v' M, en = .returned v' ∧ H w M w' ∧ ∃ A1 c1, v' = .tuple #[.slice A1 (tl + 3) c1, iv 0] ∧ M = [vec A1 (tl + 3) c1 55 9 (cvs (resL l (tch l (N + 3)) N p))] := by
  subst ht
  refine (compute_n hN1 hN2 ho hl hll hRO hR40 hs hsb hsl).mono ?_
  rintro en w' ⟨v', M, h1, h2, ⟨p', h3, h4⟩ | ⟨h3, _⟩⟩
  · rw [hc] at h3; cases h3
    exact ⟨v', M, h1, h2, h4⟩
  · rw [hc] at h3; cases h3
end
end Go.Proofs.YtdcijljfgcjelaaGreat
namespace Go.Proofs.YtdcijljfgcjelaaGreat
set_option maxRecDepth 20000
open Go.RowKit
/-! ### numbers in order -/
theorem numL_inc (p : Nat → Bool) : ∀ n k, k + 1 < (numL p n).length → nth (numL p n) k < nth (numL p n) (k + 1)
  | 0, k, h => by simp [numL] at h
  | n + 1, k, h => by
    by_cases hp : p n = true
    · rw [numL_T' hp] at h ⊢
      rw [List.length_append] at h
      have h' : k + 1 < (numL p n).length + 1 := h
      by_cases e : k + 1 < (numL p n).length
      · have := numL_inc p n k e
        unfold nth at this ⊢
        rwa [List.getD_eq_getElem?_getD, List.getD_eq_getElem?_getD, List.getElem?_append_left (by omega), List.getElem?_append_left e, ← List.getD_eq_getElem?_getD, ← List.getD_eq_getElem?_getD]
      · have h1 := numL_lt p n k (by omega)
        have h2 : nth (numL p n ++ [n]) (k + 1) = n := by
          unfold nth
          rw [List.getD_eq_getElem?_getD, List.getElem?_append_right (by omega), show k + 1 - (numL p n).length = 0 from by omega]; rfl
        have h3 : nth (numL p n ++ [n]) k = nth (numL p n) k := by
          unfold nth
          rw [List.getD_eq_getElem?_getD, List.getElem?_append_left (by omega), ← List.getD_eq_getElem?_getD]
        rw [h2, h3]; exact h1
    · rw [numL_F' (by simpa using hp)] at h ⊢
      exact numL_inc p n k h
theorem nth_take' {α : Type} [Inhabited α] {l : List α} {k m : Nat} (h : k < m) : nth (l.take m) k = nth l k := by
  unfold nth; rw [List.getD_eq_getElem?_getD, List.getD_eq_getElem?_getD, List.getElem?_take, if_pos h]
theorem mem_nth {α : Type} [Inhabited α] {l : List α} {k : Nat} (h : k < l.length) : nth l k ∈ l := by rw [nth_eq h]; exact List.getElem_mem h
theorem mem_take_succ {l : List Nat} {i k : Nat} (hi : i < l.length) : k ∈ l.take (i + 1) ↔ k ∈ l.take i ∨ k = nth l i := by
  rw [take_snoc hi, List.mem_append, List.mem_singleton]
theorem inc_not {l : List Nat} (h : ∀ k, k + 1 < l.length → nth l k < nth l (k + 1)) : ∀ i, i < l.length → ∀ k ∈ l.take i, k < nth l i
  | 0, _, k, hk => by simp at hk
  | i + 1, hi, k, hk => by
    have h1 := h i hi
    rcases (mem_take_succ (by omega)).1 hk with h2 | h2
    · have := inc_not h i (by omega) k h2; omega
    · omega
/-! ### what was read, put in its place -/
theorem rsP_nth {N : Nat} {f : Nat → Blk} {R : List Nat} (hR : ∀ k, k < R.length → nth R k < N) : ∀ i, i ≤ R.length → ∀ k ∈ R.take i, nth (rsP N (R.map f) R i) k = f k
  | 0, _, k, hk => by simp at hk
  | i + 1, hi, k, hk => by
    have h1 := hR i (by omega)
    have h2 : nth (R.map f) i = f (nth R i) := nth_map' f (by omega)
    unfold rsP
    rw [nth_set_eq (by rw [rsP_len]; exact h1), h2]
    by_cases e : k = nth R i
    · rw [if_pos e, e]
    · rw [if_neg e]
      exact rsP_nth hR i (by omega) k (((mem_take_succ (by omega)).1 hk).resolve_right e)
theorem frB_mem {N : Nat} {R : List Nat} (hR : ∀ k, k < R.length → nth R k < N + 3) : ∀ i, i ≤ R.length → ∀ k, k < N + 3 → nth (frB N R i) k = false → k ∈ R.take i
  | 0, _, k, hk, h => by unfold frB at h; rw [nth_rep hk] at h; cases h
  | i + 1, hi, k, hk, h => by
    have h1 := hR i (by omega)
    unfold frB at h
    rw [nth_set_eq (by rw [frB_len]; exact h1)] at h
    rw [mem_take_succ (by omega)]
    by_cases e : k = nth R i
    · exact .inr e
    · rw [if_neg e] at h
      exact .inl (frB_mem hR i (by omega) k hk h)
/-! ### the touched pieces changed one after another -/
def tdP (ds : List Blk) (l : List Chg) (T : List Nat) : Nat → List Blk
  | 0 => ds
  | i + 1 => (tdP ds l T i).set (nth T i) (lstB l (nth T i))
theorem tdP_len (ds : List Blk) (l : List Chg) (T : List Nat) : ∀ i, (tdP ds l T i).length = ds.length
  | 0 => rfl
  | i + 1 => by rw [tdP, List.length_set, tdP_len ds l T i]
theorem tdP_nth {ds : List Blk} {l : List Chg} {T : List Nat} (hT : ∀ k, k < T.length → nth T k < ds.length) : ∀ i, i ≤ T.length → ∀ k, nth (tdP ds l T i) k = if k ∈ T.take i then lstB l k else nth ds k
  | 0, _, k => by rw [List.take_zero, if_neg List.not_mem_nil]; rfl
  | i + 1, hi, k => by
    unfold tdP
    rw [nth_set_eq (by rw [tdP_len]; exact hT i (by omega)), tdP_nth hT i (by omega) k]
    by_cases e : k = nth T i
    · rw [if_pos e, if_pos ((mem_take_succ (by omega)).2 (.inr e)), e]
    · rw [if_neg e]
      by_cases h : k ∈ T.take i
      · rw [if_pos h, if_pos ((mem_take_succ (by omega)).2 (.inl h))]
      · rw [if_neg h, if_neg fun q => h (((mem_take_succ (by omega)).1 q).resolve_right e)]
theorem tdP_end {ds : List Blk} {l : List Chg} {N : Nat} (hN : ds.length = N) (ho : okC (N + 3 : Nat) l = true) : tdP ds l (tch l (N + 3)) (tch l (N + 3)).length = datP ds l l.length := by
  subst hN
  refine list_ext_nth (by rw [tdP_len, datP_len]) fun k hk => ?_
  rw [tdP_len] at hk
  rw [datP_nth ho hk l.length (Nat.le_refl _), tdP_nth (fun k hk => tch_lt ho hk) _ (Nat.le_refl _), List.take_length]
  by_cases h : (lastC l k l.length).isSome = true
  · rw [if_pos (tch_mem.2 ⟨by omega, h⟩)]
    unfold lstB
    cases e : lastC l k l.length with
    | none => rw [e] at h; cases h
    | some b => rfl
  · rw [if_neg fun q => h (tch_mem.1 q).2]
    cases e : lastC l k l.length with
    | none => rfl
    | some b => rw [e] at h; exact absurd rfl h
theorem dltP_enc {ds : List Blk} {l : List Chg} {O : List Blk} {N : Nat} (hN : ds.length = N) (ho : okC (N + 3 : Nat) l = true) (h0 : O.drop (tch l (N + 3)).length = enc ds) (hO : ∀ i, i < (tch l (N + 3)).length → nth O i = nth ds (nth (tch l (N + 3)) i)) :
    ∀ i, i ≤ (tch l (N + 3)).length → dltP l O (tch l (N + 3)) i = enc (tdP ds l (tch l (N + 3)) i)
  | 0, _ => h0
  | i + 1, hi => by
    have hlt : nth (tch l (N + 3)) i < ds.length := by rw [hN]; exact tch_lt ho (by omega)
    have h1 : nth O i = nth (tdP ds l (tch l (N + 3)) i) (nth (tch l (N + 3)) i) := by
      rw [hO i (by omega), tdP_nth (fun k hk => by rw [hN]; exact tch_lt ho hk) i (by omega), if_neg]
      intro h
      have hlt2 : i < (tch l (N + 3)).length := by omega
      have := inc_not (numL_inc _ _) i hlt2 _ h
      exact absurd this (Nat.lt_irrefl _)
    unfold dltP
    rw [dltP_enc hN ho h0 hO i (by omega), h1, upd_enc _ _ (by rw [tdP_len]; exact hlt)]
    rfl
/-! ### the three methods -/
section
variable {ds : List Blk} {l : List Chg} {N : Nat} {bs : List Bool}
theorem nth_lo {α : Type} [Inhabited α] {a b : List α} {k : Nat} (h : k < a.length) : nth (a ++ b) k = nth a k := by
  unfold nth; rw [List.getD_eq_getElem?_getD, List.getElem?_append_left h, ← List.getD_eq_getElem?_getD]
theorem nth_hi {α : Type} [Inhabited α] {a b : List α} {k : Nat} : nth (a ++ b) (a.length + k) = nth b k := by
  unfold nth; rw [List.getD_eq_getElem?_getD, List.getElem?_append_right (by omega), show a.length + k - a.length = k from by omega, ← List.getD_eq_getElem?_getD]
theorem ints_inj {a b : List Nat} (h : ints a = ints b) : a = b := by rw [← nats_ints a, ← nats_ints b, h]
theorem cmp_delta (hN : ds.length = N) (ho : okC (N + 3 : Nat) l = true) : dltP l ((tch l (N + 3) ++ [N, N + 1, N + 2]).map (nth (ds ++ enc ds))) (tch l (N + 3)) (tch l (N + 3)).length = enc (datP ds l l.length) := by
  rw [dltP_enc hN ho ?_ ?_ _ (Nat.le_refl _), tdP_end hN ho]
  · rw [List.map_append, List.drop_left' (List.length_map ..)]
    refine list_ext_nth (by rw [enc3]; rfl) fun k hk => ?_
    have hk3 : k < 3 := hk
    rcases (by omega : k = 0 ∨ k = 1 ∨ k = 2) with rfl | rfl | rfl
    · show nth (ds ++ enc ds) N = _; rw [← hN]; exact nth_hi (k := 0)
    · show nth (ds ++ enc ds) (N + 1) = _; rw [← hN]; exact nth_hi
    · show nth (ds ++ enc ds) (N + 2) = _; rw [← hN]; exact nth_hi
  · intro i hi
    have hlt := tch_lt ho hi
    rw [nth_map' _ (by rw [List.length_append]; omega), nth_lo hi, nth_lo (by omega)]
theorem cmp_rest (hN : ds.length = N) (ho : okC (N + 3 : Nat) l = true) {Rs : List Nat} (hR : Rs = numL (rP (N + 3) (ints (tch l (N + 3)))) (N + 3)) : datP (rsP N (Rs.map (nth (ds ++ enc ds))) Rs Rs.length) l l.length = datP ds l l.length := by
  have hlt : ∀ k, k < Rs.length → nth Rs k < N := fun k hk => by
    have h1 : nth Rs k ∈ numL (rP (N + 3) (ints (tch l (N + 3)))) (N + 3) := by rw [← hR]; exact mem_nth hk
    have h2 := ((numL_mem _).1 h1).2
    unfold rP at h2
    rw [Bool.and_eq_true] at h2
    have := of_decide_eq_true h2.1
    omega
  refine list_ext_nth (by rw [datP_len, datP_len, rsP_len, hN]) fun k hk => ?_
  rw [datP_len, rsP_len] at hk
  rw [datP_nth (by rw [rsP_len]; exact ho) (by rw [rsP_len]; exact hk) _ (Nat.le_refl _), datP_nth (by rw [hN]; exact ho) (by omega) _ (Nat.le_refl _)]
  cases e : lastC l k l.length with
  | some b => rfl
  | none =>
    have hm : k ∈ Rs.take Rs.length := by
      rw [List.take_length, hR, numL_mem]
      refine ⟨by omega, ?_⟩
      unfold rP
      rw [decide_eq_true (by omega), hasB_ints, decide_eq_false]
      · rfl
      · intro h; have := (tch_mem.1 h).2; rw [e] at this; cases this
    show nth _ k = nth ds k
    rw [rsP_nth hlt _ (Nat.le_refl _) k hm, nth_lo (by omega)]
theorem cmp_first (hN : ds.length = N) (h1 : 1 ≤ N) (h2 : N ≤ 13) {R : List Nat} (hR : R.length = N) (hok : ∀ i, i < N → okR (N + 3) (ints R) i) : frD N (R.map (nth (ds ++ enc ds))) (ints R) = ds := by
  have hlt : ∀ k, k < R.length → nth R k < N + 3 := fun k hk => by
    have := (hok k (by omega)).2.1
    rw [nth_ints hk] at this
    omega
  have hc := frB_cnt (N := N) (R := ints R) (fun j hj => hok j (by rw [ints_len] at hj; omega)) R.length (by rw [ints_len]; exact Nat.le_refl _)
  rw [nats_ints] at hc
  unfold frD
  rw [nats_ints, ints_len, decL_group hN h1 h2 (by omega) (fun k hk h => ?_), List.take_left' hN]
  exact rsP_nth hlt _ (Nat.le_refl _) k (frB_mem hlt _ (Nat.le_refl _) k hk h)
theorem cmp_right (hN : ds.length = N) (h1 : 1 ≤ N) (h2 : N ≤ 13) (ho : okC (N + 3 : Nat) l = true) (hb : bs.length = N + 3) (hg : N ≤ (numL (gP bs) (N + 3)).length) :
    cmpP N (ints (refL N (ints (tch l (N + 3))) bs)) ((refL N (ints (tch l (N + 3))) bs).map (nth (ds ++ enc ds))) l = some (enc (datP ds l l.length)) := by
  obtain ⟨R, hR⟩ : ∃ R, R = refL N (ints (tch l (N + 3))) bs := ⟨_, rfl⟩
  rw [← hR]
  unfold cmpP
  by_cases hA : ints R = ints (numL (dP (N + 3) (ints (tch l (N + 3)))) (N + 3))
  · rw [if_pos hA, ints_inj hA, dP_all ho, cmp_delta hN ho]
  · rw [if_neg hA]
    by_cases hB : ints R = ints (numL (rP (N + 3) (ints (tch l (N + 3)))) (N + 3))
    · rw [if_pos hB, nats_ints, ints_len, cmp_rest hN ho (ints_inj hB)]
    · rw [if_neg hB]
      have hf : R = (numL (gP bs) (N + 3)).take N := by
        rw [hR]
        unfold refL pick3
        rw [hR] at hA hB
        unfold refL pick3 at hA hB
        split
        · rename_i h; rw [if_pos h] at hA; exact absurd rfl hA
        · rename_i h
          rw [if_neg h] at hA hB
          split
          · rename_i h'; rw [if_pos h'] at hB; exact absurd rfl hB
          · rfl
      have hl : R.length = N := by rw [hf, List.length_take]; omega
      have hn : ∀ k, k < N → nth R k = nth (numL (gP bs) (N + 3)) k := fun k hk => by rw [hf]; exact nth_take' hk
      have hok : ∀ i, i < N → okR (N + 3) (ints R) i := fun i hi => by
        refine ⟨?_, ?_, ?_⟩
        · rw [nth_ints (by omega)]; omega
        · rw [nth_ints (by omega), hn i hi]
          have := numL_lt (gP bs) (N + 3) i (by omega)
          omega
        · by_cases e : i = 0
          · exact .inl e
          · refine .inr ?_
            rw [nth_ints (by omega), nth_ints (by omega), hn i hi, hn (i - 1) (by omega)]
            have := numL_inc (gP bs) (N + 3) (i - 1) (by omega)
            rw [show i - 1 + 1 = i from by omega] at this
            omega
      rw [if_pos ⟨by rw [ints_len]; exact hl, hok⟩, cmp_first hN h1 h2 hl hok]
/-! ### the group with the results -/
theorem res_lo (hN : ds.length = N) (p : List Blk) : ∀ i, i ≤ (tch l (N + 3)).length → okC (N + 3 : Nat) l = true → datP (ds ++ enc ds) (resL l (tch l (N + 3)) N p) i = tdP ds l (tch l (N + 3)) i ++ enc ds
  | 0, _, _ => rfl
  | i + 1, hi, ho => by
    have h1 := resL_lo (l := l) (T := tch l (N + 3)) (N := N) (p := p) (i := i) (by omega)
    unfold datP tdP
    rw [res_lo hN p i (by omega) ho, h1, Int.toNat_natCast]
    exact List.set_append_left _ _ (by rw [tdP_len, hN]; exact tch_lt ho (by omega))
theorem set_hi {a b : List Blk} {j : Nat} {x : Blk} : (a ++ b).set (a.length + j) x = a ++ b.set j x := by
  rw [List.set_append_right _ _ (by omega), show a.length + j - a.length = j from by omega]
theorem res_all (hN : ds.length = N) (ho : okC (N + 3 : Nat) l = true) {p : List Blk} (hp : p.length = 3) : datP (ds ++ enc ds) (resL l (tch l (N + 3)) N p) ((tch l (N + 3)).length + 3) = datP ds l l.length ++ p := by
  have h0 := res_lo (l := l) hN p _ (Nat.le_refl _) ho
  rw [tdP_end hN ho] at h0
  obtain ⟨T, hT⟩ : ∃ T, T = tch l (N + 3) := ⟨_, rfl⟩
  rw [← hT] at h0 ⊢
  obtain ⟨Y, hY⟩ : ∃ Y, Y = datP ds l l.length := ⟨_, rfl⟩
  have hYl : Y.length = N := by rw [hY, datP_len, hN]
  rw [← hY] at h0 ⊢
  have st : ∀ (X : List Blk) (j : Nat), j < 3 → datP (ds ++ enc ds) (resL l T N p) (T.length + j) = Y ++ X → datP (ds ++ enc ds) (resL l T N p) (T.length + (j + 1)) = Y ++ X.set j (nth p j) := fun X j hj h => by
    have h1 := resL_hi (l := l) (T := T) (N := N) (p := p) hj
    rw [← Nat.add_assoc]
    unfold datP
    rw [h, h1, Int.toNat_natCast, ← hYl, set_hi]
  have h3 := st _ 2 (by omega) (st _ 1 (by omega) (st _ 0 (by omega) h0))
  have : T.length + (2 + 1) = T.length + 3 := rfl
  rw [this] at h3
  rw [h3]
  congr 1
  match p, hp, hE : enc ds, enc3 ds with
  | [a, b, c], _, [x, y, z], _ => rfl
end
end Go.Proofs.YtdcijljfgcjelaaGreat
namespace Go.Proofs.YtdcijljfgcjelaaGreat
set_option maxRecDepth 20000
open Go.RowKit
theorem numL_sat {p : Nat → Bool} {n k : Nat} (h : k < (numL p n).length) : p (nth (numL p n) k) = true := ((numL_mem n).1 (mem_nth h)).2
theorem goodL_all {l : List Nat} {bs : List Bool} (h : goodL l bs = true) : ∀ k, k < l.length → nth bs (nth l k) = false := by
  unfold goodL at h
  refine gfnd_none (p := fun k => nth bs (nth l k)) ?_
  cases hf : gfnd (fun k => nth bs (nth l k)) l.length with
  | none => rfl
  | some j => rw [hf] at h; exact absurd h Bool.false_ne_true
theorem refL_fine {N : Nat} {T : List Int} {bs : List Bool} (hg : N ≤ (numL (gP bs) (N + 3)).length) : (∀ k, k < (refL N T bs).length → nth (refL N T bs) k < N + 3 ∧ nth bs (nth (refL N T bs) k) = false) ∧ (refL N T bs).length ≤ N := by
  have hr := rest_le N T
  unfold refL pick3
  split
  · rename_i h
    rw [Bool.and_eq_true, Bool.and_eq_true] at h
    exact ⟨fun k hk => ⟨numL_lt _ _ k hk, goodL_all h.1 k hk⟩, of_decide_eq_true h.2.2⟩
  · split
    · rename_i h
      exact ⟨fun k hk => ⟨numL_lt _ _ k hk, goodL_all h k hk⟩, hr⟩
    · have ht : ((numL (gP bs) (N + 3)).take N).length = N := by rw [List.length_take]; omega
      refine ⟨fun k hk => ?_, by omega⟩
      rw [ht] at hk
      rw [nth_take' hk]
      have h1 : (!nth bs (nth (numL (gP bs) (N + 3)) k)) = true := numL_sat (p := gP bs) (n := N + 3) (k := k) (by omega)
      exact ⟨numL_lt _ _ k (by omega), by simpa using h1⟩
def mkN (bs : List Bool) (i : Nat) : Nat := (numL (fun k => nth bs k) i).length
theorem mkN_good {bs : List Bool} {N : Nat} (h : mkN bs (N + 3) ≤ 3) : N ≤ (numL (gP bs) (N + 3)).length := by
  have := numL_both (fun k => nth bs k) (N + 3)
  unfold mkN at h
  have e : (fun i => !(fun k => nth bs k) i) = gP bs := by funext i; rfl
  rw [e] at this
  omega
theorem tch_pos {l : List Chg} {N : Nat} (hl : 0 < l.length) (ho : okC (N + 3 : Nat) l = true) : 0 < (tch l (N + 3)).length := by
  have h1 := okC_each ho hl
  obtain ⟨z, hz⟩ : ∃ z : Nat, (nth l 0).s = z := ⟨(nth l 0).s.toNat, by omega⟩
  have h2 : z ∈ tch l (N + 3) := tch_mem.2 ⟨by omega, lastC_hit hl hz⟩
  exact List.length_pos_of_mem h2
theorem tch_okT {l : List Chg} {N : Nat} (ho : okC (N + 3 : Nat) l = true) : ∀ i, i < (ints (tch l (N + 3))).length → okT (N + 3 : Nat) (ints (tch l (N + 3))) i := fun i hi => by
  rw [ints_len] at hi
  have h1 := tch_lt ho hi
  refine ⟨by rw [nth_ints hi]; omega, by rw [nth_ints hi]; omega, ?_⟩
  by_cases e : i = 0
  · exact .inl e
  · refine .inr ?_
    rw [nth_ints hi, nth_ints (by omega)]
    have hi2 : i - 1 + 1 < (tch l (N + 3)).length := by omega
    have := numL_inc _ _ (i - 1) hi2
    rw [show i - 1 + 1 = i from by omega] at this
    exact Int.ofNat_lt.2 this
theorem apL_group {ds : List Blk} {l : List Chg} : apL (ds ++ enc ds) l = datP ds l l.length ++ enc (datP ds l l.length) := by
  unfold apL
  rw [List.length_append, enc3, Nat.add_sub_cancel, List.take_left' rfl]
theorem resL_ok {l : List Chg} {N : Nat} {p : List Blk} (hN2 : N ≤ 13) (ho : okC ((N + 3 : Nat) : Int) l = true) {k : Nat} (hk : k < (tch l (N + 3)).length + 3) : ∃ z : Nat, (nth (resL l (tch l (N + 3)) N p) k).s = z ∧ z < N + 3 := by
  by_cases h : k < (tch l (N + 3)).length
  · rw [resL_lo h]; exact ⟨_, rfl, by have := tch_lt ho h; omega⟩
  · obtain ⟨j, rfl⟩ : ∃ j, k = (tch l (N + 3)).length + j := ⟨k - (tch l (N + 3)).length, by omega⟩
    rw [resL_hi (by omega)]; exact ⟨_, rfl, by omega⟩
end Go.Proofs.YtdcijljfgcjelaaGreat
namespace Go.Proofs.YtdcijljfgcjelaaGreat
set_option maxRecDepth 20000
open Go.RowKit Go.WideShapes Go.ChangeShapes Go.ChangeAt
theorem Lf.chg {cs : List Value} (h : Lf (some .i64 :: blkK) cs) : ∃ x : Chg, cs = x.cells ∧ x.ok := by
  obtain ⟨z, ds, rfl, h1, h2, h3⟩ := h.iv
  obtain ⟨b, rfl⟩ := h3.blk
  exact ⟨⟨z, b⟩, rfl, h1, h2⟩
section
variable {H : Type} {enc : TypeId × Value → H} {W : World}
theorem open_changes {b0 : Nat} {v : Value} {d : DataW H} {p : List MemPlace} (hv : Value.okWide Tryz.prog W .any b0 24 v) (h : DataW.Trod enc Tryz.prog W 0 (fun _ => true) true 24 v d p) :
    ∃ l : List Chg, Sl W 9 v l.length (cvs l) ∧ ∀ x ∈ l, x.ok := by
  obtain ⟨css, hs, hc⟩ := open_sl_flat (sz := 9) (ks := some .i64 :: blkK) Tryz.underlying24 (by kernel_rfl) (by omega) (by kernel_rfl) hv h
  obtain ⟨l, rfl, e, hok⟩ := each_flat (fun c hc => hc.chg) hc
  rw [e, List.length_map] at hs
  exact ⟨l, hs, hok⟩
end
end Go.Proofs.YtdcijljfgcjelaaGreat
