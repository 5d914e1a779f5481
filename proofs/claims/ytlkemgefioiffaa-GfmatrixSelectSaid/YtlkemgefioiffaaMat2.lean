/- blank and Identity, walked. No condition. -/
import Derived.Test.YtlkemgefioiffaaMat1
namespace Go.Proofs.Ytlkemgefioiffaa
open Go.RowKit
attribute [local irreducible] Calls
abbrev matM (A : Option Addr) (c : Nat) (rs : List Row) : List Asrt := [vec A rs.length c 28 1 (rs.map Row.v), rowsA rs]
theorem nilrow_set (rs : List Row) (r : Row) {n k : Nat} (h : rs.length = k) (hk : k < n) {i : Nat} (hi : i = k * 1) : (rs.map Row.v ++ List.replicate (n - k) (Value.slice none 0 0)).set i r.v = (rs ++ [r]).map Row.v ++ List.replicate (n - (k + 1)) (Value.slice none 0 0) := by
  rw [hi, Nat.mul_one, List.set_append_right _ _ (by rw [List.length_map]; omega), List.length_map, h, Nat.sub_self, show n - k = (n - (k + 1)) + 1 from by omega, List.replicate_succ, List.set_cons_zero, List.map_append, List.append_assoc]
  rfl
theorem els_add (rs : List Row) (r : Row) : els (rs ++ [r]) = els rs ++ [r.l] := by simp [els]
theorem zrow_own (b c : Nat) : (⟨some ⟨b, 0, none⟩, c, zrow c⟩ : Row).own = vec (some ⟨b, 0, none⟩) c c 5 1 (bvs (zrow c)) := by
  show vec _ (zrow c).length c _ _ _ = _
  rw [zrow, List.length_replicate]
theorem zrow_v (b c : Nat) : (⟨some ⟨b, 0, none⟩, c, zrow c⟩ : Row).v = .slice (some ⟨b, 0, none⟩) c c := by
  show Value.slice _ (zrow c).length c = _
  rw [zrow, List.length_replicate]
set_option maxRecDepth 20000 in
set_option maxHeartbeats 1000000 in
theorem blank_n (n c : Nat) (w : World) (hn : n ≤ 1000) (hc : c ≤ 1000) : Calls Try.prog 32 #[iv n, iv c] w fun e w' => ∃ v' M, e = .returned v' ∧ H w M w' ∧
    ∃ A cc rs, v' = .slice A rs.length cc ∧ M = matM A cc rs ∧ els rs = List.replicate n (zrow c) ∧ rs.length = n := by
  refine calls_wc (args := [iv n, iv c]) [4] [] Try.func32 rfl Try.ntmps32 rfl rfl rfl rfl (H.refl w) ?_
  (refine WC.seq ?_; intro K hK)
  refine WC.region rfl ?_
  refine WL.want rfl (WL1.give rfl (g_assign rfl (.mk (v := .slice _ _ _) rfl rfl)) ?_)
  refine WL.nil ?_
  (refine hK _ _ ?_; clear hK)
  (refine WC.seq ?_; intro K hK)
  refine WC.region rfl ?_
  refine WL.want rfl (WL1.give rfl (g_move rfl (.mk (v := .int _ _) rfl rfl)) ?_)
  refine WL.want rfl (WL1.make elR rfl rfl (.mk rfl rfl) (.mk rfl rfl) rfl rfl (by omega) (by unfold maxLen; omega) (fun b8 => ?_))
  refine WL.want rfl (WL1.give rfl (g_assign rfl (.mk (v := .slice _ _ _) rfl rfl)) ?_)
  refine WL.nil ?_
  (refine hK _ _ ?_; clear hK)
  (refine WC.seq ?_; intro K hK)
  (refine WC.seq ?_; intro K hK)
  refine WC.region rfl ?_
  refine WL.want rfl (WL1.give rfl (g_move rfl (.mk (v := .slice _ _ _) rfl rfl)) ?_)
  refine WL.want rfl (WL1.give rfl (g_len rfl (.mk rfl rfl) rfl) ?_)
  refine WL.want rfl (WL1.give rfl (g_move rfl (.mk (v := .int _ _) rfl rfl)) ?_)
  refine WL.nil ?_
  (refine hK _ _ ?_; clear hK)
  refine WC.block ?_
  refine WC.loopI2 (1046592) (fun (k : Nat) (rs : List Row) => [(11, iv k)]) (fun k rs => [vec (some ⟨b8, 0, none⟩) n n 28 1 (rs.map Row.v ++ List.replicate (n - k) (Value.slice none 0 0)), rowsA rs]) (fun k rs => k ≤ n ∧ rs.length = k ∧ els rs = List.replicate k (zrow c)) (fun k _ => n - k) 0 [] ⟨rfl, trivial⟩ ?_ ⟨by omega, rfl, rfl⟩ ?_
  · refine Imp.trans ?_ (Imp.cons (Imp.rows_nil []))
    rw [show (Value.slice none 0 0).cells = #[.slice none 0 0] from rfl, made_one]
    exact .refl _
  · rintro k rs U ⟨hk, hrl, hre⟩
    have hll : (rs.map Row.v ++ List.replicate (n - k) (Value.slice none 0 0)).length = n := by simp; omega
    by_cases hlt : k < n
    · (refine WC.seq ?_; intro K hK)
      refine WC.region rfl ?_
      refine WL.want rfl (WL1.give rfl (g_lt rfl (.mk rfl rfl) (.mk rfl rfl) (decide_eq_true (by omega))) ?_)
      refine WL.nil ?_
      (refine hK _ _ ?_; clear hK)
      (refine WC.seq ?_; intro K hK)
      refine WC.cond_true (.mk rfl rfl) ?_
      refine WC.skip ?_
      (refine hK _ _ ?_; clear hK)
      (refine WC.seq ?_; intro K hK)
      refine WC.block ?_
      (refine WC.seq ?_; intro K hK)
      refine WC.region rfl ?_
      refine WL.want rfl (WL1.give rfl (g_move rfl (.mk (v := .int _ _) rfl rfl)) ?_)
      refine WL.want rfl (WL1.give rfl (g_assign rfl (.mk (v := .int _ _) rfl rfl)) ?_)
      refine WL.nil ?_
      (refine hK _ _ ?_; clear hK)
      refine WC.region rfl ?_
      refine WL.want rfl (WL1.give rfl (g_move rfl (.mk (v := .slice _ _ _) rfl rfl)) ?_)
      refine WL.want rfl (WL1.give rfl (g_move rfl (.mk (v := .int _ _) rfl rfl)) ?_)
      refine WL.want rfl (WL1.give rfl (g_move rfl (.mk (v := .int _ _) rfl rfl)) ?_)
      refine WL.want rfl (WL1.make elB rfl rfl (.mk rfl rfl) (.mk rfl rfl) rfl rfl (by omega) (by unfold maxLen; omega) (fun b17 => ?_))
      refine WL.want rfl (WL1.give rfl (g_indexAddr (sz := 1) rfl (.mk rfl rfl) (.mk rfl rfl) rfl rfl rfl (by omega) (fun _ _ => rfl)) ?_)
      refine WL.want rfl (WL1.storeV1 rfl rfl (.mk rfl rfl) (.mk (v := .slice _ _ _) rfl rfl) rfl rfl (by first | omega | (simp; done) | (simp; omega)) (.tail (.head)) ?_)
      refine WL.nil ?_
      (refine hK _ _ ?_; clear hK)
      refine WC.region rfl ?_
      refine WL.want rfl (WL1.give rfl (g_add rfl (.mk rfl rfl) (.mk rfl rfl) (IntWalk.i64_in _ (by omega))) ?_)
      refine WL.want rfl (WL1.give rfl (g_move rfl (.mk (v := .int _ _) rfl rfl)) ?_)
      refine WL.nil ?_
      refine ⟨k + 1, rs ++ [⟨some ⟨b17, 0, none⟩, c, zrow c⟩], (by repeat (first | with_reducible exact Out.refl _ _ | refine Out.set rfl ?_ | refine Out.put rfl ?_ | refine Out.sets rfl ?_ | refine Out.hav rfl ?_ | exact Out.refl _ _)), ⟨rfl, trivial⟩, ?_, ⟨by omega, by simp [hrl], by rw [els_add, hre, List.replicate_succ']⟩, by omega⟩
      rw [← nilrow_set rs ⟨some ⟨b17, 0, none⟩, c, zrow c⟩ hrl hlt rfl, zrow_v]
      refine Imp.add2 ?_ (.tail .head)
      rw [zrow_own, zrow, ← madeU]
      exact .head
    · obtain rfl : k = n := by omega
      (refine WC.seq ?_; intro K hK)
      refine WC.region rfl ?_
      refine WL.want rfl (WL1.give rfl (g_lt rfl (.mk rfl rfl) (.mk rfl rfl) (decide_eq_false (by omega))) ?_)
      refine WL.nil ?_
      (refine hK _ _ ?_; clear hK)
      (refine WC.seq ?_; intro K hK)
      refine WC.cond_false (.mk rfl rfl) ?_
      refine WC.exit ?_
      (clear hK; refine hK _ _ ?_; clear hK)
      (refine WC.seq ?_; intro K hK)
      refine WC.region rfl ?_
      refine WL.want rfl (WL1.give rfl (g_move rfl (.mk (v := .slice _ _ _) rfl rfl)) ?_)
      refine WL.want rfl (WL1.give rfl (g_assign rfl (.mk (v := .slice _ _ _) rfl rfl)) ?_)
      refine WL.nil ?_
      (refine hK _ _ ?_; clear hK)
      refine WC.ret ?_
      exact fun w' hw' => ⟨_, _, rfl, hw', some ⟨b8, 0, none⟩, k, rs, by rw [hrl]; rfl, by rw [Nat.sub_self, List.replicate_zero, List.append_nil, matM, hrl], hre, hrl⟩
def idM (n : Nat) : List (List G) := (List.range n).map fun i => (List.range n).map fun k => dlt i k
/-- The first k rows. -/
def idP (n k : Nat) : List (List G) := (List.range n).map fun i => if i < k then (List.range n).map fun k => dlt i k else zrow n
theorem idP_zero (n : Nat) : idP n 0 = List.replicate n (zrow n) := by
  refine List.ext_getElem (by simp [idP]) fun i h1 h2 => ?_
  simp [idP]
theorem idP_all (n : Nat) : idP n n = idM n := List.map_congr_left fun i hi => if_pos (by simpa using hi)
theorem idP_len (n k : Nat) : (idP n k).length = n := by simp [idP]
theorem zrow_nth {c j : Nat} (h : j < c) : nth (zrow c) j = 0 := by rw [nth_eq (by simpa [zrow] using h)]; simp [zrow]
theorem zrow_len (c : Nat) : (zrow c).length = c := by simp [zrow]
theorem unit_row {n k : Nat} (h : k < n) : (zrow n).set k 1 = (List.range n).map fun j => dlt k j :=
  list_ext_nth (by rw [List.length_set, zrow_len]; simp) fun j hj => by
    rw [List.length_set, zrow_len] at hj
    rw [nth_range _ hj, nth_put (by rw [zrow_len]; exact h)]
    by_cases e : j = k
    · rw [if_pos e, e, dlt_self]
    · rw [if_neg e, zrow_nth hj, dlt_ne (fun h => e h.symm)]
theorem idP_row {n k : Nat} (h : k < n) : nth (idP n k) k = zrow n := by rw [idP, nth_range _ h, if_neg (by omega)]
theorem idP_set {n k : Nat} (h : k < n) : (idP n k).set k ((zrow n).set k 1) = idP n (k + 1) :=
  list_ext_nth (by rw [List.length_set, idP_len, idP_len]) fun j hj => by
    rw [List.length_set, idP_len] at hj
    rw [nth_put (by rw [idP_len]; exact h), unit_row h, idP, idP, nth_range _ hj, nth_range _ hj]
    by_cases e : j = k
    · subst e; rw [if_pos rfl, if_pos (by omega)]
    · rw [if_neg e]
      by_cases e2 : j < k
      · rw [if_pos e2, if_pos (by omega)]
      · rw [if_neg e2, if_neg (by omega)]
theorem els_row {rs : List Row} {m : List (List G)} (h : els rs = m) {k : Nat} (hk : k < rs.length) : (nth rs k).l = nth m k := by rw [← h, els_at hk]
theorem put_els {rs : List Row} {k j : Nat} {x : G} (hk : k < rs.length) : els (rs.set k ((nth rs k).put j x)) = (els rs).set k ((nth (els rs) k).set j x) := by rw [els_set, els_at hk]; rfl
set_option maxRecDepth 20000 in
set_option maxHeartbeats 1000000 in
theorem identity_n (n : Nat) (w : World) (h1 : 1 ≤ n) (h2 : n ≤ 64) : Calls Try.prog 22 #[iv n] w fun e w' => ∃ v' M, e = .returned v' ∧ H w M w' ∧
    ∃ A cc rs, v' = .tuple #[.slice A rs.length cc, iv 0] ∧ M = matM A cc rs ∧ els rs = idM n ∧ rs.length = n := by
  refine calls_wc (args := [iv n]) [2, 3] [] Try.func22 rfl Try.ntmps22 rfl rfl rfl rfl (H.refl w) ?_
  (refine WC.seq ?_; intro K hK)
  refine WC.region rfl ?_
  refine WL.want rfl (WL1.give rfl (g_assign rfl (.mk (v := .slice _ _ _) rfl rfl)) ?_)
  refine WL.want rfl (WL1.give rfl (g_assign rfl (.mk (v := .int _ _) rfl rfl)) ?_)
  refine WL.nil ?_
  (refine hK _ _ ?_; clear hK)
  (refine WC.seq ?_; intro K hK)
  (refine WC.seq ?_; intro K hK)
  refine WC.region rfl ?_
  refine WL.want rfl (WL1.give rfl (g_move rfl (.mk (v := .int _ _) rfl rfl)) ?_)
  refine WL.want rfl (WL1.give rfl (g_lt rfl (.mk rfl rfl) (.mk rfl rfl) (decide_eq_false (by omega))) ?_)
  refine WL.want rfl (WL1.give rfl (g_move rfl (.mk (v := .bool _) rfl rfl)) ?_)
  refine WL.wantG rfl rfl rfl rfl (WL1.give rfl (g_move rfl (.mk (v := .int _ _) rfl rfl)) ?_)
  refine WL.wantG rfl rfl rfl rfl (WL1.give rfl (g_gt rfl (.mk rfl rfl) (.mk rfl rfl) (decide_eq_false (by omega))) ?_)
  refine WL.want rfl (WL1.give rfl (g_pickF rfl (.mk rfl rfl) (.mk (v := .bool _) rfl rfl)) ?_)
  refine WL.nil ?_
  (refine hK _ _ ?_; clear hK)
  refine WC.cond_false (.mk rfl rfl) ?_
  refine WC.skip ?_
  (refine hK _ _ ?_; clear hK)
  (refine WC.seq ?_; intro K hK)
  refine WC.region rfl ?_
  refine WL.want rfl (WL1.give rfl (g_move rfl (.mk (v := .int _ _) rfl rfl)) ?_)
  refine WL.want rfl (WL1.give rfl (g_move rfl (.mk (v := .int _ _) rfl rfl)) ?_)
  (refine WL.want rfl (WL1.callN rfl rfl rfl (.cons (.mk (v := .int _ _) rfl rfl) (.cons (.mk (v := .int _ _) rfl rfl) .nil)) (fun w hw => blank_n n n w (by omega) (by omega)) ?_); rintro _ _ ⟨A, cc, rs0, rfl, rfl, hre0, hrl0⟩)
  refine WL.want rfl (WL1.give rfl (g_assign rfl (.mk (v := .slice _ _ _) rfl rfl)) ?_)
  refine WL.nil ?_
  (refine hK _ _ ?_; clear hK)
  (refine WC.seq ?_; intro K hK)
  (refine WC.seq ?_; intro K hK)
  refine WC.region rfl ?_
  refine WL.want rfl (WL1.give rfl (g_move rfl (.mk (v := .slice _ _ _) rfl rfl)) ?_)
  refine WL.want rfl (WL1.give rfl (g_len rfl (.mk rfl rfl) rfl) ?_)
  refine WL.want rfl (WL1.give rfl (g_move rfl (.mk (v := .int _ _) rfl rfl)) ?_)
  refine WL.nil ?_
  (refine hK _ _ ?_; clear hK)
  refine WC.block ?_
  refine WC.loopI2 (134086688) (fun (k : Nat) (rs : List Row) => [(17, iv k)]) (fun k rs => [vec A rs0.length cc 28 1 (rs.map Row.v), rowsA rs]) (fun k rs => k ≤ n ∧ rs.length = n ∧ els rs = idP n k) (fun k _ => n - k) 0 rs0 ⟨rfl, trivial⟩ (by rw [List.append_nil]; exact .refl _) ⟨by omega, hrl0, by rw [hre0, idP_zero]⟩ ?_
  rintro k rs U ⟨hk, hrl, hre⟩
  by_cases hlt : k < n
  · have hrow := els_row hre (k := k) (by omega)
    rw [idP_row hlt] at hrow
    have hrl2 : (nth rs k).l.length = n := by rw [hrow, zrow_len]
    (refine WC.seq ?_; intro K hK)
    refine WC.region rfl ?_
    refine WL.want rfl (WL1.give rfl (g_lt rfl (.mk rfl rfl) (.mk rfl rfl) (decide_eq_true (by omega))) ?_)
    refine WL.nil ?_
    (refine hK _ _ ?_; clear hK)
    (refine WC.seq ?_; intro K hK)
    refine WC.cond_true (.mk rfl rfl) ?_
    refine WC.skip ?_
    (refine hK _ _ ?_; clear hK)
    (refine WC.seq ?_; intro K hK)
    refine WC.block ?_
    (refine WC.seq ?_; intro K hK)
    refine WC.region rfl ?_
    refine WL.want rfl (WL1.give rfl (g_move rfl (.mk (v := .int _ _) rfl rfl)) ?_)
    refine WL.want rfl (WL1.give rfl (g_assign rfl (.mk (v := .int _ _) rfl rfl)) ?_)
    refine WL.nil ?_
    (refine hK _ _ ?_; clear hK)
    refine WC.region rfl ?_
    refine WL.want rfl (WL1.give rfl (g_move rfl (.mk (v := .slice _ _ _) rfl rfl)) ?_)
    refine WL.want rfl (WL1.give rfl (g_move rfl (.mk (v := .int _ _) rfl rfl)) ?_)
    refine WL.want rfl (WL1.give rfl (g_indexAddr (sz := 1) rfl (.mk rfl rfl) (.mk rfl rfl) rfl rfl rfl (by omega) (fun w hw => vec_some hw (.head _) (by omega))) ?_)
    refine WL.want rfl (WL1.give rfl (g_load rfl (.mk rfl rfl) rfl (rd_vec (.head _) (get1 (by omega)))) ?_)
    refine WL.want rfl (WL1.give rfl (g_move rfl (.mk (v := .int _ _) rfl rfl)) ?_)
    refine WL.want rfl (WL1.give rfl (g_indexAddr (sz := 1) rfl (.mk rfl rfl) (.mk rfl rfl) rfl rfl rfl (by omega) (rowA_some (.tail _ (.head _)) (by omega) (by omega))) ?_)
    refine WL.want rfl (WL1.storeRow (g := 1) rfl rfl (.mk rfl rfl) rfl rfl (.mk rfl rfl) rfl rfl (by omega) (by omega) (.tail (.head)) ?_)
    refine WL.nil ?_
    (refine hK _ _ ?_; clear hK)
    refine WC.region rfl ?_
    refine WL.want rfl (WL1.give rfl (g_add rfl (.mk rfl rfl) (.mk rfl rfl) (IntWalk.i64_in _ (by omega))) ?_)
    refine WL.want rfl (WL1.give rfl (g_move rfl (.mk (v := .int _ _) rfl rfl)) ?_)
    refine WL.nil ?_
    refine ⟨k + 1, rs.set k ((nth rs k).put k 1), (by repeat (first | with_reducible exact Out.refl _ _ | refine Out.set rfl ?_ | refine Out.put rfl ?_ | refine Out.sets rfl ?_ | refine Out.hav rfl ?_ | exact Out.refl _ _)), ⟨rfl, trivial⟩, by rw [rowsv_put (by omega)]; exact .refl _, ⟨by omega, by rw [List.length_set, hrl], by rw [put_els (by omega), hre, idP_row hlt, idP_set hlt]⟩, by omega⟩
  · obtain rfl : k = n := by omega
    (refine WC.seq ?_; intro K hK)
    refine WC.region rfl ?_
    refine WL.want rfl (WL1.give rfl (g_lt rfl (.mk rfl rfl) (.mk rfl rfl) (decide_eq_false (by omega))) ?_)
    refine WL.nil ?_
    (refine hK _ _ ?_; clear hK)
    (refine WC.seq ?_; intro K hK)
    refine WC.cond_false (.mk rfl rfl) ?_
    refine WC.exit ?_
    (clear hK; refine hK _ _ ?_; clear hK)
    (refine WC.seq ?_; intro K hK)
    refine WC.region rfl ?_
    refine WL.want rfl (WL1.give rfl (g_move rfl (.mk (v := .slice _ _ _) rfl rfl)) ?_)
    refine WL.want rfl (WL1.give rfl (g_assign rfl (.mk (v := .slice _ _ _) rfl rfl)) ?_)
    refine WL.want rfl (WL1.give rfl (g_assign rfl (.mk (v := .int _ _) rfl rfl)) ?_)
    refine WL.nil ?_
    (refine hK _ _ ?_; clear hK)
    refine WC.ret ?_
    exact fun w' hw' => ⟨_, _, rfl, hw', A, cc, rs, by show Value.tuple #[.slice A rs0.length cc, iv 0] = _; rw [hrl, hrl0], by rw [matM, hrl, hrl0], by rw [hre, idP_all], hrl⟩
set_option maxRecDepth 20000 in
set_option maxHeartbeats 1000000 in
theorem identity_bad (n : Int) (w : World) (h : n < 1 ∨ 64 < n) : Calls Try.prog 22 #[iv n] w fun e w' => e = .returned (.tuple #[.slice none 0 0, iv 1]) ∧ Below w.heap.size w w' := by
  refine calls_wc (args := [iv n]) [2, 3] [] Try.func22 rfl Try.ntmps22 rfl rfl rfl rfl (H.refl w) ?_
  (refine WC.seq ?_; intro K hK)
  refine WC.region rfl ?_
  refine WL.want rfl (WL1.give rfl (g_assign rfl (.mk (v := .slice _ _ _) rfl rfl)) ?_)
  refine WL.want rfl (WL1.give rfl (g_assign rfl (.mk (v := .int _ _) rfl rfl)) ?_)
  refine WL.nil ?_
  (refine hK _ _ ?_; clear hK)
  (refine WC.seq ?_; intro K hK)
  (refine WC.seq ?_; intro K hK)
  refine WC.region rfl ?_
  refine WL.want rfl (WL1.give rfl (g_move rfl (.mk (v := .int _ _) rfl rfl)) ?_)
  refine WL.want rfl (WL1.giveD rfl (g_lt rfl (.mk rfl rfl) (.mk rfl rfl) rfl) (fun _ => ?_) (fun _ => ?_))
  refine WL.want rfl (WL1.give rfl (g_move rfl (.mk (v := .bool _) rfl rfl)) ?_)
  refine WL.skipG rfl rfl rfl rfl rfl rfl ?_
  refine WL.skipG rfl rfl rfl rfl rfl rfl ?_
  refine WL.want rfl (WL1.give rfl (g_pickT rfl (.mk rfl rfl) (.mk (v := .bool _) rfl rfl)) ?_)
  refine WL.nil ?_
  (refine hK _ _ ?_; clear hK)
  refine WC.cond_true (.mk rfl rfl) ?_
  (refine WC.seq ?_; intro K hK)
  refine WC.region rfl ?_
  refine WL.want rfl (WL1.give rfl (g_assign rfl (.mk (v := .slice _ _ _) rfl rfl)) ?_)
  refine WL.want rfl (WL1.give rfl (g_assign rfl (.mk (v := .int _ _) rfl rfl)) ?_)
  refine WL.nil ?_
  (refine hK _ _ ?_; clear hK)
  refine WC.ret ?_
  rotate_left
  refine WL.want rfl (WL1.give rfl (g_move rfl (.mk (v := .bool _) rfl rfl)) ?_)
  refine WL.wantG rfl rfl rfl rfl (WL1.give rfl (g_move rfl (.mk (v := .int _ _) rfl rfl)) ?_)
  refine WL.wantG rfl rfl rfl rfl (WL1.give rfl (g_gt rfl (.mk rfl rfl) (.mk rfl rfl) (decide_eq_true (by omega))) ?_)
  refine WL.want rfl (WL1.give rfl (g_pickF rfl (.mk rfl rfl) (.mk (v := .bool _) rfl rfl)) ?_)
  refine WL.nil ?_
  (refine hK _ _ ?_; clear hK)
  refine WC.cond_true (.mk rfl rfl) ?_
  (refine WC.seq ?_; intro K hK)
  refine WC.region rfl ?_
  refine WL.want rfl (WL1.give rfl (g_assign rfl (.mk (v := .slice _ _ _) rfl rfl)) ?_)
  refine WL.want rfl (WL1.give rfl (g_assign rfl (.mk (v := .int _ _) rfl rfl)) ?_)
  refine WL.nil ?_
  (refine hK _ _ ?_; clear hK)
  refine WC.ret ?_
  rotate_left
  all_goals exact fun w' hw' => ⟨rfl, hw'.1⟩
end Go.Proofs.Ytlkemgefioiffaa
