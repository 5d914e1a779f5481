/- Apply, Mul and Transpose, walked. No condition. -/
import Derived.Test.YtlkemgefioiffaaMat2
namespace Go.Proofs.Ytlkemgefioiffaa
open Go.RowKit
attribute [local irreducible] Calls
/-- A row of results under way: those below i are done, the one at i is g, the others are z. -/
def prg {α : Type} (n : Nat) (f : Nat → α) (z g : α) (i : Nat) : List α := (List.range n).map fun q => if q < i then f q else if q = i then g else z
section
variable {α : Type} {n i : Nat} {f : Nat → α} {z g g' : α}
theorem prg_len : (prg n f z g i).length = n := by simp [prg]
theorem prg_nth [Inhabited α] {q : Nat} (h : q < n) : nth (prg n f z g i) q = if q < i then f q else if q = i then g else z := nth_range _ h
theorem prg_at [Inhabited α] (h : i < n) : nth (prg n f z g i) i = g := by rw [prg_nth h, if_neg (by omega), if_pos rfl]
theorem prg_set [Inhabited α] (h : i < n) : (prg n f z g i).set i g' = prg n f z g' i :=
  list_ext_nth (by rw [List.length_set, prg_len, prg_len]) fun q hq => by
    rw [List.length_set, prg_len] at hq
    rw [nth_put (by rw [prg_len]; exact h), prg_nth hq, prg_nth hq]
    by_cases e : q = i
    · subst e; rw [if_pos rfl, if_neg (by omega), if_pos rfl]
    · rw [if_neg e, if_neg e, if_neg e]
theorem prg_next : prg n f z (f i) i = prg n f z z (i + 1) := List.map_congr_left fun q _ => by
  by_cases e : q < i
  · rw [if_pos e, if_pos (by omega)]
  · by_cases e2 : q = i
    · subst e2; rw [if_neg e, if_pos rfl, if_pos (by omega)]
    · rw [if_neg e, if_neg e2, if_neg (by omega)]
      by_cases e3 : q = i + 1
      · rw [if_pos e3]
      · rw [if_neg e3]
theorem prg_zero : List.replicate n z = prg n f z z 0 := by
  refine List.ext_getElem (by simp [prg]) fun q h1 h2 => ?_
  simp [prg]
theorem prg_all : prg n f z z n = (List.range n).map f := List.map_congr_left fun q hq => if_pos (by simpa using hq)
end
theorem gfused_map {dst src : List G} {n : Nat} (c : G) (h1 : dst.length = n) (h2 : src.length = n) : gfused dst src c = (List.range n).map fun j => nth dst j + c * nth src j :=
  list_ext_nth (by rw [gfused_length _ _ _ (by omega)]; simp [h1]) fun k hk => by
    rw [gfused_length _ _ _ (by omega)] at hk
    rw [nth_range _ (by omega), nth_eq hk, nth_eq (l := src) (by omega)]
    have := gfused_get dst src c k hk (by omega)
    unfold nth
    rw [List.getD_eq_getElem?_getD, this]; rfl
theorem own_of {A : Option Addr} {c m : Nat} {l : List G} (h : l.length = m) : vec A m c 5 1 (bvs l) = (⟨A, c, l⟩ : Row).own := by subst h; rfl
theorem v_of {A : Option Addr} {c m : Nat} {l : List G} (h : l.length = m) : Value.slice A m c = (⟨A, c, l⟩ : Row).v := by subst h; rfl
/-- Element j of row i. -/
def el (m : List (List G)) (i j : Nat) : G := nth (nth m i) j
theorem el_row {rs : List Row} {i : Nat} (h : i < rs.length) (j : Nat) : nth (nth rs i).l j = el (els rs) i j := by rw [el, els_at h]
def dot (m : List (List G)) (v : List G) (i k : Nat) : G := gsum k fun j => el m i j * nth v j
def apM (m : List (List G)) (v : List G) : List G := (List.range m.length).map fun i => dot m v i v.length
theorem mul_c (a b : G) (w : World) : Calls Try.prog 44 #[bv a, bv b] w fun e w' => e = .returned (bv (a * b)) ∧ w' = w := (mul_any a b w).mono fun _ _ ⟨h1, h2⟩ => ⟨h1, h2.symm⟩
theorem xor_bv (a b : G) : IntKind.u8.wrap ((BitVec.ofInt IntKind.u8.bits (a.val : Int) ^^^ BitVec.ofInt IntKind.u8.bits (b.val : Int)).toNat : Int) = (((a + b).val : Nat) : Int) := G.add_val a b
set_option maxRecDepth 20000 in
set_option maxHeartbeats 1000000 in
theorem apply_n (va vv : Value) (ra : List Row) (v : List G) (w : World) (ha : MatAt w va ra) (hv : Sl w 1 vv v.length (bvs v)) (hg : Good (els ra)) (hl : v.length = (nth ra 0).l.length) :
    Calls Try.prog 26 #[va, vv] w fun e w' => ∃ v' M, e = .returned v' ∧ H w M w' ∧ ∃ b, v' = .tuple #[.slice (some ⟨b, 0, none⟩) ra.length ra.length, iv 0] ∧ M = [vec (some ⟨b, 0, none⟩) ra.length ra.length 5 1 (bvs (apM (els ra) v))] := by
  obtain ⟨A, c, rfl, hc, hm, hs⟩ := ha.1.open_
  obtain ⟨A2, c2, rfl, hc2, hm2, hs2⟩ := hv.open_
  have hval := fun w' hb => valid_e _ ra w' (ha.below (w' := w') hb)
  rw [goodB_iff.2 hg] at hval
  obtain ⟨g1, g2, g3, g4⟩ := hg.parts
  refine calls_wc (args := [.slice A ra.length c, .slice A2 v.length c2]) [4, 5] [] Try.func26 rfl Try.ntmps26 rfl rfl rfl rfl (H.refl w) ?_
  (refine WC.seq ?_; intro K hK)
  refine WC.region rfl ?_
  refine WL.want rfl (WL1.give rfl (g_assign rfl (.mk (v := .slice _ _ _) rfl rfl)) ?_)
  refine WL.want rfl (WL1.give rfl (g_assign rfl (.mk (v := .int _ _) rfl rfl)) ?_)
  refine WL.nil ?_
  (refine hK _ _ ?_; clear hK)
  (refine WC.seq ?_; intro K hK)
  (refine WC.seq ?_; intro K hK)
  refine WC.region rfl ?_
  refine WL.want rfl (WL1.give rfl (g_move rfl (.mk (v := .slice _ _ _) rfl rfl)) ?_)
  refine WL.want rfl (WL1.callP rfl rfl rfl (.cons (.mk (v := .slice _ _ _) rfl rfl) .nil) (fun w hw => hval w hw.1) ?_)
  refine WL.want rfl (WL1.give rfl (g_notT rfl (.mk rfl rfl)) ?_)
  refine WL.want rfl (WL1.give rfl (g_move rfl (.mk (v := .bool _) rfl rfl)) ?_)
  refine WL.wantG rfl rfl rfl rfl (WL1.give rfl (g_move rfl (.mk (v := .slice _ _ _) rfl rfl)) ?_)
  refine WL.wantG rfl rfl rfl rfl (WL1.give rfl (g_len rfl (.mk rfl rfl) rfl) ?_)
  refine WL.wantG rfl rfl rfl rfl (WL1.give rfl (g_move rfl (.mk (v := .slice _ _ _) rfl rfl)) ?_)
  refine WL.wantG rfl rfl rfl rfl (WL1.give rfl (g_indexAddr (sz := 1) rfl (.mk rfl rfl) (.mk rfl rfl) rfl rfl (show _ = ((0 : Nat) : Int) from rfl) (by omega) (fun _ _ => sl_some hs (by omega))) ?_)
  refine WL.wantG rfl rfl rfl rfl (WL1.give rfl (g_load rfl (.mk rfl rfl) rfl (rd_sl hs (get1 (by omega)))) ?_)
  refine WL.wantG rfl rfl rfl rfl (WL1.give rfl (g_len rfl (.mk rfl rfl) rfl) ?_)
  refine WL.wantG rfl rfl rfl rfl (WL1.give rfl (g_ne rfl (.mk rfl rfl) (.mk rfl rfl) (decide_eq_false (by omega))) ?_)
  refine WL.want rfl (WL1.give rfl (g_pickF rfl (.mk rfl rfl) (.mk (v := .bool _) rfl rfl)) ?_)
  refine WL.nil ?_
  (refine hK _ _ ?_; clear hK)
  refine WC.cond_false (.mk rfl rfl) ?_
  refine WC.skip ?_
  (refine hK _ _ ?_; clear hK)
  (refine WC.seq ?_; intro K hK)
  refine WC.region rfl ?_
  refine WL.want rfl (WL1.give rfl (g_move rfl (.mk (v := .slice _ _ _) rfl rfl)) ?_)
  refine WL.want rfl (WL1.give rfl (g_len rfl (.mk rfl rfl) rfl) ?_)
  refine WL.want rfl (WL1.make elB rfl rfl (.mk rfl rfl) (.mk rfl rfl) rfl rfl (by omega) (by unfold maxLen; omega) (fun b25 => ?_))
  refine WL.want rfl (WL1.give rfl (g_assign rfl (.mk (v := .slice _ _ _) rfl rfl)) ?_)
  refine WL.nil ?_
  (refine hK _ _ ?_; clear hK)
  (refine WC.seq ?_; intro K hK)
  (refine WC.seq ?_; intro K hK)
  refine WC.region rfl ?_
  refine WL.want rfl (WL1.give rfl (g_move rfl (.mk (v := .slice _ _ _) rfl rfl)) ?_)
  refine WL.want rfl (WL1.give rfl (g_len rfl (.mk rfl rfl) rfl) ?_)
  refine WL.want rfl (WL1.give rfl (g_move rfl (.mk (v := .int _ _) rfl rfl)) ?_)
  refine WL.nil ?_
  (refine hK _ _ ?_; clear hK)
  refine WC.block ?_
  refine WC.loop (18014398241048448) (fun i : Nat => [(28, iv i)]) (fun i => [vec (some ⟨b25, 0, none⟩) ra.length ra.length 5 1 (bvs (prg ra.length (fun i => dot (els ra) v i v.length) 0 0 i))]) (fun i => i ≤ ra.length) (fun i => ra.length - i) 0 ⟨rfl, trivial⟩ (by rw [← prg_zero, ← madeU]; exact .refl _) (by omega) ?_
  intro i U hi
  by_cases hlt : i < ra.length
  · have hrl := hg.row hlt
    (refine WC.seq ?_; intro K hK)
    refine WC.region rfl ?_
    refine WL.want rfl (WL1.give rfl (g_lt rfl (.mk rfl rfl) (.mk rfl rfl) (decide_eq_true (by omega))) ?_)
    refine WL.nil ?_
    (refine hK _ _ ?_; clear hK)
    (refine WC.seq ?_; intro K hK)
    refine WC.cond_true (.mk rfl rfl) ?_
    refine WC.skip ?_
    (refine hK _ _ ?_; clear hK)
    (refine WC.seq ?_; intro K hK)
    refine WC.block ?_
    (refine WC.seq ?_; intro K hK)
    refine WC.region rfl ?_
    refine WL.want rfl (WL1.give rfl (g_move rfl (.mk (v := .int _ _) rfl rfl)) ?_)
    refine WL.want rfl (WL1.give rfl (g_indexAddr (sz := 1) rfl (.mk rfl rfl) (.mk rfl rfl) rfl rfl rfl (by omega) (fun _ _ => sl_some hs (by omega))) ?_)
    refine WL.want rfl (WL1.give rfl (g_load rfl (.mk rfl rfl) rfl (rd_sl hs (get1 (by omega)))) ?_)
    refine WL.want rfl (WL1.give rfl (g_assign rfl (.mk (v := .int _ _) rfl rfl)) ?_)
    refine WL.want rfl (WL1.give rfl (g_assign rfl (.mk (v := .slice _ _ _) rfl rfl)) ?_)
    refine WL.nil ?_
    (refine hK _ _ ?_; clear hK)
    (refine WC.seq ?_; intro K hK)
    refine WC.region rfl ?_
    refine WL.want rfl (WL1.give rfl (g_move rfl (.mk (v := .slice _ _ _) rfl rfl)) ?_)
    refine WL.want rfl (WL1.give rfl (g_len rfl (.mk rfl rfl) rfl) ?_)
    refine WL.want rfl (WL1.give rfl (g_move rfl (.mk (v := .int _ _) rfl rfl)) ?_)
    refine WL.nil ?_
    (refine hK _ _ ?_; clear hK)
    refine WC.block ?_
    refine WC.loop (9007164895004160) (fun k : Nat => [(35, iv k)]) (fun k => [vec (some ⟨b25, 0, none⟩) ra.length ra.length 5 1 (bvs (prg ra.length (fun i => dot (els ra) v i v.length) 0 (dot (els ra) v i k) i))]) (fun k => k ≤ v.length) (fun k => v.length - k) 0 ⟨rfl, trivial⟩ (.refl _) (by omega) ?_
    intro k V hk
    by_cases hlt2 : k < v.length
    · have hpa := prg_at (f := fun i => dot (els ra) v i v.length) (z := 0) (g := dot (els ra) v i k) hlt
      have hps := prg_set (f := fun i => dot (els ra) v i v.length) (z := 0) (g := dot (els ra) v i k) (g' := dot (els ra) v i (k + 1)) hlt
      have hpl := prg_len (n := ra.length) (f := fun i => dot (els ra) v i v.length) (z := 0) (g := dot (els ra) v i k) (i := i)
      have hbl : (bvs (prg ra.length (fun i => dot (els ra) v i v.length) 0 (dot (els ra) v i k) i)).length = ra.length := by unfold bvs; rw [List.length_map, hpl]
      have hst : (bvs (prg ra.length (fun i => dot (els ra) v i v.length) 0 (dot (els ra) v i k) i)).set (i * 1) (bv (dot (els ra) v i k + nth (nth ra i).l k * nth v k)) = bvs (prg ra.length (fun i => dot (els ra) v i v.length) 0 (dot (els ra) v i (k + 1)) i) := by
        rw [el_row hlt, Nat.mul_one, bvs_set]; exact congrArg bvs hps
      have hrd : (bvs (prg ra.length (fun i => dot (els ra) v i v.length) 0 (dot (els ra) v i k) i))[i * 1]? = some (bv (dot (els ra) v i k)) := by rw [Nat.mul_one, bvs_get (by omega), hpa]
      (refine WC.seq ?_; intro K hK)
      refine WC.region rfl ?_
      refine WL.want rfl (WL1.give rfl (g_lt rfl (.mk rfl rfl) (.mk rfl rfl) (decide_eq_true (by omega))) ?_)
      refine WL.nil ?_
      (refine hK _ _ ?_; clear hK)
      (refine WC.seq ?_; intro K hK)
      refine WC.cond_true (.mk rfl rfl) ?_
      refine WC.skip ?_
      (refine hK _ _ ?_; clear hK)
      (refine WC.seq ?_; intro K hK)
      refine WC.block ?_
      (refine WC.seq ?_; intro K hK)
      refine WC.region rfl ?_
      refine WL.want rfl (WL1.give rfl (g_move rfl (.mk (v := .int _ _) rfl rfl)) ?_)
      refine WL.want rfl (WL1.give rfl (g_indexAddr (sz := 1) rfl (.mk rfl rfl) (.mk rfl rfl) rfl rfl rfl (by omega) (fun _ _ => sl_some (ha.row (by omega)) (by omega))) ?_)
      refine WL.want rfl (WL1.give rfl (g_load rfl (.mk rfl rfl) rfl (rd_sl (ha.row (by omega)) (get1 (by omega)))) ?_)
      refine WL.want rfl (WL1.give rfl (g_assign rfl (.mk (v := .int _ _) rfl rfl)) ?_)
      refine WL.want rfl (WL1.give rfl (g_assign rfl (.mk (v := .int _ _) rfl rfl)) ?_)
      refine WL.nil ?_
      (refine hK _ _ ?_; clear hK)
      refine WC.split 12 rfl (by kernel_rfl) (by decide +kernel) ?_
      refine WQ.want rfl (WQ1.give rfl (g_move rfl (.mk (v := .slice _ _ _) rfl rfl)) ?_)
      refine WQ.want rfl (WQ1.give rfl (g_move rfl (.mk (v := .int _ _) rfl rfl)) ?_)
      refine WQ.want rfl (WQ1.give rfl (g_indexAddr (sz := 1) rfl (.mk rfl rfl) (.mk rfl rfl) rfl rfl rfl (by omega) (fun _ _ => rfl)) ?_)
      refine WQ.want rfl (WQ1.give rfl (g_load rfl (.mk rfl rfl) rfl (rd_vec (.head _) hrd)) ?_)
      refine WQ.want rfl (WQ1.give rfl (g_move rfl (.mk (v := .int _ _) rfl rfl)) ?_)
      refine WQ.want rfl (WQ1.give rfl (g_move rfl (.mk (v := .slice _ _ _) rfl rfl)) ?_)
      refine WQ.want rfl (WQ1.give rfl (g_move rfl (.mk (v := .int _ _) rfl rfl)) ?_)
      refine WQ.want rfl (WQ1.give rfl (g_indexAddr (sz := 1) rfl (.mk rfl rfl) (.mk rfl rfl) rfl rfl rfl (by omega) (fun _ _ => sl_some hs2 (by omega))) ?_)
      refine WQ.want rfl (WQ1.give rfl (g_load rfl (.mk rfl rfl) rfl (rd_sl hs2 (get1 (by omega)))) ?_)
      refine WQ.want rfl (WQ1.callP rfl rfl rfl (.cons (.mk (v := .int _ _) rfl rfl) (.cons (.mk (v := .int _ _) rfl rfl) .nil)) (fun w hw => Calls.belowS (mul_c (nth (nth ra i).l k) (nth v k) w)) ?_)
      refine WQ.want rfl (WQ1.give rfl (g_xor (k := .u8) rfl (.mk rfl rfl) (.mk rfl rfl) (xor_bv _ _)) ?_)
      refine WQ.want rfl (WQ1.give rfl (g_indexAddr (sz := 1) rfl (.mk rfl rfl) (.mk rfl rfl) rfl rfl rfl (by omega) (fun _ _ => rfl)) ?_)
      refine WQ.nil ?_
      refine WY.one 12 (by decide +kernel) rfl rfl ?_
      refine WL1.storeV1 rfl rfl (.mk rfl rfl) (.mk rfl rfl) rfl rfl (by first | omega | (simp; done) | (simp; omega)) (.head) ?_
      refine WL.nil ?_
      refine WY.done (by decide +kernel) ?_
      (refine hK _ _ ?_; clear hK)
      refine WC.region rfl ?_
      refine WL.want rfl (WL1.give rfl (g_add rfl (.mk rfl rfl) (.mk rfl rfl) (IntWalk.i64_in _ (by omega))) ?_)
      refine WL.want rfl (WL1.give rfl (g_move rfl (.mk (v := .int _ _) rfl rfl)) ?_)
      refine WL.nil ?_
      exact ⟨k + 1, (by repeat (first | with_reducible exact Out.refl _ _ | refine Out.set rfl ?_ | refine Out.put rfl ?_ | refine Out.sets rfl ?_ | refine Out.hav rfl ?_ | exact Out.refl _ _)), ⟨rfl, trivial⟩, by rw [← hst]; exact .refl _, by omega, by omega⟩
    · obtain rfl : k = v.length := by omega
      (refine WC.seq ?_; intro K hK)
      refine WC.region rfl ?_
      refine WL.want rfl (WL1.give rfl (g_lt rfl (.mk rfl rfl) (.mk rfl rfl) (decide_eq_false (by omega))) ?_)
      refine WL.nil ?_
      (refine hK _ _ ?_; clear hK)
      (refine WC.seq ?_; intro K hK)
      refine WC.cond_false (.mk rfl rfl) ?_
      refine WC.exit ?_
      (clear hK; refine hK _ _ ?_; clear hK)
      refine WC.region rfl ?_
      refine WL.want rfl (WL1.give rfl (g_add rfl (.mk rfl rfl) (.mk rfl rfl) (IntWalk.i64_in _ (by omega))) ?_)
      refine WL.want rfl (WL1.give rfl (g_move rfl (.mk (v := .int _ _) rfl rfl)) ?_)
      refine WL.nil ?_
      exact ⟨i + 1, (by repeat (first | with_reducible exact Out.refl _ _ | refine Out.set rfl ?_ | refine Out.put rfl ?_ | refine Out.sets rfl ?_ | refine Out.hav rfl ?_ | exact Out.refl _ _)), ⟨rfl, trivial⟩, by rw [← prg_next]; exact .refl _, by omega, by omega⟩
  · obtain rfl : i = ra.length := by omega
    (refine WC.seq ?_; intro K hK)
    refine WC.region rfl ?_
    refine WL.want rfl (WL1.give rfl (g_lt rfl (.mk rfl rfl) (.mk rfl rfl) (decide_eq_false (by omega))) ?_)
    refine WL.nil ?_
    (refine hK _ _ ?_; clear hK)
    (refine WC.seq ?_; intro K hK)
    refine WC.cond_false (.mk rfl rfl) ?_
    refine WC.exit ?_
    (clear hK; refine hK _ _ ?_; clear hK)
    (refine WC.seq ?_; intro K hK)
    refine WC.region rfl ?_
    refine WL.want rfl (WL1.give rfl (g_move rfl (.mk (v := .slice _ _ _) rfl rfl)) ?_)
    refine WL.want rfl (WL1.give rfl (g_assign rfl (.mk (v := .slice _ _ _) rfl rfl)) ?_)
    refine WL.want rfl (WL1.give rfl (g_assign rfl (.mk (v := .int _ _) rfl rfl)) ?_)
    refine WL.nil ?_
    (refine hK _ _ ?_; clear hK)
    refine WC.ret ?_
    exact fun w' hw' => ⟨_, _, rfl, hw', b25, rfl, by rw [prg_all, apM, els_len]⟩
set_option maxRecDepth 20000 in
set_option maxHeartbeats 1000000 in
theorem apply_bad (va vv : Value) (ra : List Row) (v : List G) (w : World) (ha : MatAt w va ra) (hv : Sl w 1 vv v.length (bvs v)) (h : ¬ (Good (els ra) ∧ v.length = (nth ra 0).l.length)) :
    Calls Try.prog 26 #[va, vv] w fun e w' => e = .returned (.tuple #[.slice none 0 0, iv 1]) ∧ Below w.heap.size w w' := by
  obtain ⟨A, c, rfl, hc, hm, hs⟩ := ha.1.open_
  obtain ⟨A2, c2, rfl, hc2, hm2, hs2⟩ := hv.open_
  have hval := fun w' hb => valid_e _ ra w' (ha.below (w' := w') hb)
  by_cases hg : Good (els ra)
  · rw [goodB_iff.2 hg] at hval
    obtain ⟨g1, g2, g3, g4⟩ := hg.parts
    have hne : v.length ≠ (nth ra 0).l.length := fun e => h ⟨hg, e⟩
    refine calls_wc (args := [.slice A ra.length c, .slice A2 v.length c2]) [4, 5] [] Try.func26 rfl Try.ntmps26 rfl rfl rfl rfl (H.refl w) ?_
    (refine WC.seq ?_; intro K hK)
    refine WC.region rfl ?_
    refine WL.want rfl (WL1.give rfl (g_assign rfl (.mk (v := .slice _ _ _) rfl rfl)) ?_)
    refine WL.want rfl (WL1.give rfl (g_assign rfl (.mk (v := .int _ _) rfl rfl)) ?_)
    refine WL.nil ?_
    (refine hK _ _ ?_; clear hK)
    (refine WC.seq ?_; intro K hK)
    (refine WC.seq ?_; intro K hK)
    refine WC.region rfl ?_
    refine WL.want rfl (WL1.give rfl (g_move rfl (.mk (v := .slice _ _ _) rfl rfl)) ?_)
    refine WL.want rfl (WL1.callP rfl rfl rfl (.cons (.mk (v := .slice _ _ _) rfl rfl) .nil) (fun w hw => hval w hw.1) ?_)
    refine WL.want rfl (WL1.give rfl (g_notT rfl (.mk rfl rfl)) ?_)
    refine WL.want rfl (WL1.give rfl (g_move rfl (.mk (v := .bool _) rfl rfl)) ?_)
    refine WL.wantG rfl rfl rfl rfl (WL1.give rfl (g_move rfl (.mk (v := .slice _ _ _) rfl rfl)) ?_)
    refine WL.wantG rfl rfl rfl rfl (WL1.give rfl (g_len rfl (.mk rfl rfl) rfl) ?_)
    refine WL.wantG rfl rfl rfl rfl (WL1.give rfl (g_move rfl (.mk (v := .slice _ _ _) rfl rfl)) ?_)
    refine WL.wantG rfl rfl rfl rfl (WL1.give rfl (g_indexAddr (sz := 1) rfl (.mk rfl rfl) (.mk rfl rfl) rfl rfl (show _ = ((0 : Nat) : Int) from rfl) (by omega) (fun _ _ => sl_some hs (by omega))) ?_)
    refine WL.wantG rfl rfl rfl rfl (WL1.give rfl (g_load rfl (.mk rfl rfl) rfl (rd_sl hs (get1 (by omega)))) ?_)
    refine WL.wantG rfl rfl rfl rfl (WL1.give rfl (g_len rfl (.mk rfl rfl) rfl) ?_)
    refine WL.wantG rfl rfl rfl rfl (WL1.give rfl (g_ne rfl (.mk rfl rfl) (.mk rfl rfl) (decide_eq_true (by omega))) ?_)
    refine WL.want rfl (WL1.give rfl (g_pickF rfl (.mk rfl rfl) (.mk (v := .bool _) rfl rfl)) ?_)
    refine WL.nil ?_
    (refine hK _ _ ?_; clear hK)
    refine WC.cond_true (.mk rfl rfl) ?_
    (refine WC.seq ?_; intro K hK)
    refine WC.region rfl ?_
    refine WL.want rfl (WL1.give rfl (g_assign rfl (.mk (v := .slice _ _ _) rfl rfl)) ?_)
    refine WL.want rfl (WL1.give rfl (g_assign rfl (.mk (v := .int _ _) rfl rfl)) ?_)
    refine WL.nil ?_
    (refine hK _ _ ?_; clear hK)
    refine WC.ret ?_
    exact fun w' hw' => ⟨rfl, hw'.1⟩
  · rw [goodB_no hg] at hval
    refine calls_wc (args := [.slice A ra.length c, .slice A2 v.length c2]) [4, 5] [] Try.func26 rfl Try.ntmps26 rfl rfl rfl rfl (H.refl w) ?_
    (refine WC.seq ?_; intro K hK)
    refine WC.region rfl ?_
    refine WL.want rfl (WL1.give rfl (g_assign rfl (.mk (v := .slice _ _ _) rfl rfl)) ?_)
    refine WL.want rfl (WL1.give rfl (g_assign rfl (.mk (v := .int _ _) rfl rfl)) ?_)
    refine WL.nil ?_
    (refine hK _ _ ?_; clear hK)
    (refine WC.seq ?_; intro K hK)
    (refine WC.seq ?_; intro K hK)
    refine WC.region rfl ?_
    refine WL.want rfl (WL1.give rfl (g_move rfl (.mk (v := .slice _ _ _) rfl rfl)) ?_)
    refine WL.want rfl (WL1.callP rfl rfl rfl (.cons (.mk (v := .slice _ _ _) rfl rfl) .nil) (fun w hw => hval w hw.1) ?_)
    refine WL.want rfl (WL1.give rfl (g_notF rfl (.mk rfl rfl)) ?_)
    refine WL.want rfl (WL1.give rfl (g_move rfl (.mk (v := .bool _) rfl rfl)) ?_)
    refine WL.skipG rfl rfl rfl rfl rfl rfl ?_
    refine WL.skipG rfl rfl rfl rfl rfl rfl ?_
    refine WL.skipG rfl rfl rfl rfl rfl rfl ?_
    refine WL.skipG rfl rfl rfl rfl rfl rfl ?_
    refine WL.skipG rfl rfl rfl rfl rfl rfl ?_
    refine WL.skipG rfl rfl rfl rfl rfl rfl ?_
    refine WL.skipG rfl rfl rfl rfl rfl rfl ?_
    refine WL.want rfl (WL1.give rfl (g_pickT rfl (.mk rfl rfl) (.mk (v := .bool _) rfl rfl)) ?_)
    refine WL.nil ?_
    (refine hK _ _ ?_; clear hK)
    refine WC.cond_true (.mk rfl rfl) ?_
    (refine WC.seq ?_; intro K hK)
    refine WC.region rfl ?_
    refine WL.want rfl (WL1.give rfl (g_assign rfl (.mk (v := .slice _ _ _) rfl rfl)) ?_)
    refine WL.want rfl (WL1.give rfl (g_assign rfl (.mk (v := .int _ _) rfl rfl)) ?_)
    refine WL.nil ?_
    (refine hK _ _ ?_; clear hK)
    refine WC.ret ?_
    exact fun w' hw' => ⟨rfl, hw'.1⟩
end Go.Proofs.Ytlkemgefioiffaa
