/- Select, walked. No condition. -/
import Derived.Test.YtlkemgefioiffaaAlg
namespace Go.Proofs.Ytlkemgefioiffaa
open Go.RowKit
attribute [local irreducible] Calls
/-- A row's and a column's number lie in the matrix. -/
def okP (m n : Nat) (r c : Int) : Prop := 0 ≤ r ∧ r < m ∧ 0 ≤ c ∧ c < n
/-- Some rows and columns. -/
def selM (m : List (List G)) (rl cl : List Int) : List (List G) := (List.range rl.length).map fun p => (List.range cl.length).map fun q => el m (nth rl p).toNat (nth cl q).toNat
/-- The first i rows are done, of row i the first k elements. -/
def selP (m : List (List G)) (rl cl : List Int) (i k : Nat) : List (List G) := (List.range rl.length).map fun p => (List.range cl.length).map fun q => if p < i ∨ (p = i ∧ q < k) then el m (nth rl p).toNat (nth cl q).toNat else 0
theorem selP_len (m : List (List G)) (rl cl : List Int) (i k : Nat) : (selP m rl cl i k).length = rl.length := by simp [selP]
theorem selP_row {m : List (List G)} {rl cl : List Int} {i k p : Nat} (hp : p < rl.length) : nth (selP m rl cl i k) p = (List.range cl.length).map fun q => if p < i ∨ (p = i ∧ q < k) then el m (nth rl p).toNat (nth cl q).toNat else 0 := nth_range _ hp
theorem selP_zero (m : List (List G)) (rl cl : List Int) : List.replicate rl.length (zrow cl.length) = selP m rl cl 0 0 := by
  refine List.ext_getElem (by simp [selP]) fun q h1 h2 => List.ext_getElem (by simp [selP, zrow]) fun p h3 h4 => ?_
  simp [selP, zrow]
theorem selP_next (m : List (List G)) (rl cl : List Int) (i : Nat) : selP m rl cl i cl.length = selP m rl cl (i + 1) 0 := List.map_congr_left fun p _ => List.map_congr_left fun q hq => by
  have hq' : q < cl.length := by simpa using hq
  by_cases e : p < i + 1
  · rw [if_pos (by omega), if_pos (.inl e)]
  · rw [if_neg (by omega), if_neg (by omega)]
theorem selP_all (m : List (List G)) (rl cl : List Int) : selP m rl cl rl.length 0 = selM m rl cl := List.map_congr_left fun p hp => List.map_congr_left fun q _ => if_pos (.inl (by simpa using hp))
theorem selP_set {m : List (List G)} {rl cl : List Int} {i k : Nat} (hi : i < rl.length) (hk : k < cl.length) : (selP m rl cl i k).set i ((nth (selP m rl cl i k) i).set k (el m (nth rl i).toNat (nth cl k).toNat)) = selP m rl cl i (k + 1) := by
  refine list_ext_nth (by rw [List.length_set, selP_len, selP_len]) fun p hp => ?_
  rw [List.length_set, selP_len] at hp
  rw [nth_put (by rw [selP_len]; exact hi), selP_row hi, selP_row hp]
  by_cases e : p = i
  · subst e
    rw [if_pos rfl, selP_row hp]
    refine list_ext_nth (by simp) fun q hq => ?_
    have hq' : q < cl.length := by simpa using hq
    rw [nth_put (by simpa using hk), nth_range _ hq', nth_range _ hq']
    by_cases e2 : q = k
    · subst e2; rw [if_pos rfl, if_pos (by omega)]
    · rw [if_neg e2]
      by_cases e3 : q < k
      · rw [if_pos (.inr ⟨rfl, e3⟩), if_pos (by omega)]
      · rw [if_neg (by omega), if_neg (by omega)]
  · rw [if_neg e, selP_row hp]
    refine List.map_congr_left fun q _ => ?_
    by_cases e3 : p < i ∨ (p = i ∧ q < k)
    · rw [if_pos e3, if_pos (by omega)]
    · rw [if_neg e3, if_neg (by omega)]
/-- A list of numbers. -/
def ivs (l : List Int) : List Value := l.map (Value.int .i64)
theorem ivs_get {l : List Int} {k : Nat} (h : k < l.length) : (ivs l)[k * 1]? = some (iv (nth l k)) := get1 (f := Value.int .i64) h
set_option maxRecDepth 20000 in
set_option maxHeartbeats 4000000 in
theorem select_c (va vr vc : Value) (ra : List Row) (rl cl : List Int) (w : World) (ha : MatAt w va ra) (hr : Sl w 1 vr rl.length (ivs rl)) (hc : Sl w 1 vc cl.length (ivs cl)) (hg : Good (els ra)) (r1 : 1 ≤ rl.length) (r2 : rl.length ≤ 64) (c1 : 1 ≤ cl.length) (c2 : cl.length ≤ 64) :
    Calls Try.prog 31 #[va, vr, vc] w fun e w' => ∃ v' M, e = .returned v' ∧ H w M w' ∧
      (((∃ i k, i < rl.length ∧ k < cl.length ∧ ¬ okP ra.length (nth ra 0).l.length (nth rl i) (nth cl k)) ∧ v' = .tuple #[.slice none 0 0, iv 2]) ∨
       ((∀ i, i < rl.length → ∀ k, k < cl.length → okP ra.length (nth ra 0).l.length (nth rl i) (nth cl k)) ∧ ∃ A cc rs, v' = .tuple #[.slice A rs.length cc, iv 0] ∧ M = matM A cc rs ∧ els rs = selM (els ra) rl cl)) := by
  obtain ⟨A, c, rfl, hcc, hm, hs⟩ := ha.1.open_
  obtain ⟨B, d, rfl, hcd, hmd, hsr⟩ := hr.open_
  obtain ⟨D, f, rfl, hcf, hmf, hsc⟩ := hc.open_
  have hval := fun w' hb => valid_e _ ra w' (ha.below (w' := w') hb)
  rw [goodB_iff.2 hg] at hval
  obtain ⟨g1, g2, g3, g4⟩ := hg.parts
  obtain ⟨n, hn⟩ : ∃ n, n = (nth ra 0).l.length := ⟨_, rfl⟩
  rw [← hn]
  refine calls_wc (args := [.slice A ra.length c, .slice B rl.length d, .slice D cl.length f]) [6, 7] [] Try.func31 rfl Try.ntmps31 rfl rfl rfl rfl (H.refl w) ?_
  (refine WC.seq ?_; intro K hK)
  refine WC.region rfl ?_
  refine WL.want rfl (WL1.give rfl (g_assign rfl (.mk (v := .slice _ _ _) rfl rfl)) ?_)
  refine WL.want rfl (WL1.give rfl (g_assign rfl (.mk (v := .int _ _) rfl rfl)) ?_)
  refine WL.nil ?_
  (refine hK _ _ ?_; clear hK)
  (refine WC.seq ?_; intro K hK)
  (refine WC.seq ?_; intro K hK)
  refine WC.region rfl ?_
  refine WL.want rfl (WL1.give rfl (g_move rfl (.mk (v := .slice _ _ _) rfl rfl)) ?_)
  refine WL.want rfl (WL1.callP rfl rfl rfl (.cons (.mk (v := .slice _ _ _) rfl rfl) .nil) (fun w hw => hval w hw.1) ?_)
  refine WL.want rfl (WL1.give rfl (g_notT rfl (.mk rfl rfl)) ?_)
  refine WL.want rfl (WL1.give rfl (g_move rfl (.mk (v := .bool _) rfl rfl)) ?_)
  refine WL.wantG rfl rfl rfl rfl (WL1.give rfl (g_move rfl (.mk (v := .slice _ _ _) rfl rfl)) ?_)
  refine WL.wantG rfl rfl rfl rfl (WL1.give rfl (g_len rfl (.mk rfl rfl) rfl) ?_)
  refine WL.wantG rfl rfl rfl rfl (WL1.give rfl (g_lt rfl (.mk rfl rfl) (.mk rfl rfl) (decide_eq_false (by omega))) ?_)
  refine WL.want rfl (WL1.give rfl (g_pickF rfl (.mk rfl rfl) (.mk (v := .bool _) rfl rfl)) ?_)
  refine WL.want rfl (WL1.give rfl (g_move rfl (.mk (v := .bool _) rfl rfl)) ?_)
  refine WL.wantG rfl rfl rfl rfl (WL1.give rfl (g_move rfl (.mk (v := .slice _ _ _) rfl rfl)) ?_)
  refine WL.wantG rfl rfl rfl rfl (WL1.give rfl (g_len rfl (.mk rfl rfl) rfl) ?_)
  refine WL.wantG rfl rfl rfl rfl (WL1.give rfl (g_gt rfl (.mk rfl rfl) (.mk rfl rfl) (decide_eq_false (by omega))) ?_)
  refine WL.want rfl (WL1.give rfl (g_pickF rfl (.mk rfl rfl) (.mk (v := .bool _) rfl rfl)) ?_)
  refine WL.want rfl (WL1.give rfl (g_move rfl (.mk (v := .bool _) rfl rfl)) ?_)
  refine WL.wantG rfl rfl rfl rfl (WL1.give rfl (g_move rfl (.mk (v := .slice _ _ _) rfl rfl)) ?_)
  refine WL.wantG rfl rfl rfl rfl (WL1.give rfl (g_len rfl (.mk rfl rfl) rfl) ?_)
  refine WL.wantG rfl rfl rfl rfl (WL1.give rfl (g_lt rfl (.mk rfl rfl) (.mk rfl rfl) (decide_eq_false (by omega))) ?_)
  refine WL.want rfl (WL1.give rfl (g_pickF rfl (.mk rfl rfl) (.mk (v := .bool _) rfl rfl)) ?_)
  refine WL.want rfl (WL1.give rfl (g_move rfl (.mk (v := .bool _) rfl rfl)) ?_)
  refine WL.wantG rfl rfl rfl rfl (WL1.give rfl (g_move rfl (.mk (v := .slice _ _ _) rfl rfl)) ?_)
  refine WL.wantG rfl rfl rfl rfl (WL1.give rfl (g_len rfl (.mk rfl rfl) rfl) ?_)
  refine WL.wantG rfl rfl rfl rfl (WL1.give rfl (g_gt rfl (.mk rfl rfl) (.mk rfl rfl) (decide_eq_false (by omega))) ?_)
  refine WL.want rfl (WL1.give rfl (g_pickF rfl (.mk rfl rfl) (.mk (v := .bool _) rfl rfl)) ?_)
  refine WL.nil ?_
  (refine hK _ _ ?_; clear hK)
  refine WC.cond_false (.mk rfl rfl) ?_
  refine WC.skip ?_
  (refine hK _ _ ?_; clear hK)
  (refine WC.seq ?_; intro K hK)
  refine WC.region rfl ?_
  refine WL.want rfl (WL1.give rfl (g_move rfl (.mk (v := .slice _ _ _) rfl rfl)) ?_)
  refine WL.want rfl (WL1.give rfl (g_len rfl (.mk rfl rfl) rfl) ?_)
  refine WL.want rfl (WL1.give rfl (g_move rfl (.mk (v := .slice _ _ _) rfl rfl)) ?_)
  refine WL.want rfl (WL1.give rfl (g_len rfl (.mk rfl rfl) rfl) ?_)
  (refine WL.want rfl (WL1.callN rfl rfl rfl (.cons (.mk (v := .int _ _) rfl rfl) (.cons (.mk (v := .int _ _) rfl rfl) .nil)) (fun w hw => blank_n rl.length cl.length w (by omega) (by omega)) ?_); rintro _ _ ⟨Ao, co, r0, rfl, rfl, hre0, hrl0⟩)
  refine WL.want rfl (WL1.give rfl (g_assign rfl (.mk (v := .slice _ _ _) rfl rfl)) ?_)
  refine WL.nil ?_
  (refine hK _ _ ?_; clear hK)
  (refine WC.seq ?_; intro K hK)
  (refine WC.seq ?_; intro K hK)
  refine WC.region rfl ?_
  refine WL.want rfl (WL1.give rfl (g_move rfl (.mk (v := .slice _ _ _) rfl rfl)) ?_)
  refine WL.want rfl (WL1.give rfl (g_len rfl (.mk rfl rfl) rfl) ?_)
  refine WL.want rfl (WL1.give rfl (g_move rfl (.mk (v := .int _ _) rfl rfl)) ?_)
  refine WL.nil ?_
  (refine hK _ _ ?_; clear hK)
  refine WC.block ?_
  refine WC.loopI2 (1237940039285371478806109888) (fun (i : Nat) (rs : List Row) => [(43, iv i)]) (fun i rs => [vec Ao r0.length co 28 1 (rs.map Row.v), rowsA rs]) (fun i rs => i ≤ rl.length ∧ rs.length = rl.length ∧ els rs = selP (els ra) rl cl i 0 ∧ ∀ p, p < i → ∀ q, q < cl.length → okP ra.length n (nth rl p) (nth cl q)) (fun i _ => rl.length - i) 0 r0 ⟨rfl, trivial⟩ (by rw [List.append_nil]; exact .refl _) ⟨by omega, by omega, by rw [hre0, selP_zero], fun p hp => absurd hp (by omega)⟩ ?_
  rintro i rs U ⟨hi, hrl, hre, hok⟩
  by_cases hlt : i < rl.length
  · have hgr := ivs_get hlt
    obtain ⟨r, hr⟩ : ∃ r, r = nth rl i := ⟨_, rfl⟩
    rw [← hr] at hgr
    (refine WC.seq ?_; intro K hK)
    refine WC.region rfl ?_
    refine WL.want rfl (WL1.give rfl (g_lt rfl (.mk rfl rfl) (.mk rfl rfl) (decide_eq_true (by omega))) ?_)
    refine WL.nil ?_
    (refine hK _ _ ?_; clear hK)
    (refine WC.seq ?_; intro K hK)
    refine WC.cond_true (.mk rfl rfl) ?_
    refine WC.skip ?_
    (refine hK _ _ ?_; clear hK)
    (refine WC.seq ?_; intro K hK)
    refine WC.block ?_
    (refine WC.seq ?_; intro K hK)
    refine WC.region rfl ?_
    refine WL.want rfl (WL1.give rfl (g_move rfl (.mk (v := .int _ _) rfl rfl)) ?_)
    refine WL.want rfl (WL1.give rfl (g_indexAddr (sz := 1) rfl (.mk rfl rfl) (.mk rfl rfl) rfl rfl rfl (by omega) (fun _ _ => sl_some hsr (by omega))) ?_)
    refine WL.want rfl (WL1.give rfl (g_load rfl (.mk rfl rfl) rfl (rd_sl hsr hgr)) ?_)
    refine WL.want rfl (WL1.give rfl (g_assign rfl (.mk (v := .int _ _) rfl rfl)) ?_)
    refine WL.want rfl (WL1.give rfl (g_assign rfl (.mk (v := .int _ _) rfl rfl)) ?_)
    refine WL.nil ?_
    (refine hK _ _ ?_; clear hK)
    (refine WC.seq ?_; intro K hK)
    refine WC.region rfl ?_
    refine WL.want rfl (WL1.give rfl (g_move rfl (.mk (v := .slice _ _ _) rfl rfl)) ?_)
    refine WL.want rfl (WL1.give rfl (g_len rfl (.mk rfl rfl) rfl) ?_)
    refine WL.want rfl (WL1.give rfl (g_move rfl (.mk (v := .int _ _) rfl rfl)) ?_)
    refine WL.nil ?_
    (refine hK _ _ ?_; clear hK)
    refine WC.block ?_
    refine WC.loopI2 (618970019641564237542725824) (fun (k : Nat) (rs : List Row) => [(50, iv k)]) (fun k rs => [vec Ao r0.length co 28 1 (rs.map Row.v), rowsA rs]) (fun k rs => k ≤ cl.length ∧ rs.length = rl.length ∧ els rs = selP (els ra) rl cl i k ∧ ∀ q, q < k → okP ra.length n r (nth cl q)) (fun k _ => cl.length - k) 0 rs ⟨rfl, trivial⟩ (.refl _) ⟨by omega, hrl, hre, fun q hq => absurd hq (by omega)⟩ ?_
    rintro k rs U ⟨hk, hrl, hre, hok2⟩
    by_cases hlt2 : k < cl.length
    · have hgc := ivs_get hlt2
      obtain ⟨cc, hcq⟩ : ∃ cc, cc = nth cl k := ⟨_, rfl⟩
      rw [← hcq] at hgc
      have hbad : ¬ okP ra.length n r cc → ∃ i k, i < rl.length ∧ k < cl.length ∧ ¬ okP ra.length n (nth rl i) (nth cl k) := fun h => ⟨i, k, hlt, hlt2, by rw [← hr, ← hcq]; exact h⟩
      by_cases o1 : r < 0
      · (refine WC.seq ?_; intro K hK)
        refine WC.region rfl ?_
        refine WL.want rfl (WL1.give rfl (g_lt rfl (.mk rfl rfl) (.mk rfl rfl) (decide_eq_true (by omega))) ?_)
        refine WL.nil ?_
        (refine hK _ _ ?_; clear hK)
        (refine WC.seq ?_; intro K hK)
        refine WC.cond_true (.mk rfl rfl) ?_
        refine WC.skip ?_
        (refine hK _ _ ?_; clear hK)
        (refine WC.seq ?_; intro K hK)
        refine WC.block ?_
        (refine WC.seq ?_; intro K hK)
        refine WC.region rfl ?_
        refine WL.want rfl (WL1.give rfl (g_move rfl (.mk (v := .int _ _) rfl rfl)) ?_)
        refine WL.want rfl (WL1.give rfl (g_indexAddr (sz := 1) rfl (.mk rfl rfl) (.mk rfl rfl) rfl rfl rfl (by omega) (fun _ _ => sl_some hsc (by omega))) ?_)
        refine WL.want rfl (WL1.give rfl (g_load rfl (.mk rfl rfl) rfl (rd_sl hsc hgc)) ?_)
        refine WL.want rfl (WL1.give rfl (g_assign rfl (.mk (v := .int _ _) rfl rfl)) ?_)
        refine WL.want rfl (WL1.give rfl (g_assign rfl (.mk (v := .int _ _) rfl rfl)) ?_)
        refine WL.nil ?_
        (refine hK _ _ ?_; clear hK)
        (refine WC.seq ?_; intro K hK)
        (refine WC.seq ?_; intro K hK)
        refine WC.region rfl ?_
        refine WL.want rfl (WL1.give rfl (g_move rfl (.mk (v := .int _ _) rfl rfl)) ?_)
        refine WL.want rfl (WL1.give rfl (g_lt rfl (.mk rfl rfl) (.mk rfl rfl) (decide_eq_true (by omega))) ?_)
        refine WL.want rfl (WL1.give rfl (g_move rfl (.mk (v := .bool _) rfl rfl)) ?_)
        refine WL.skipG rfl rfl rfl rfl rfl rfl ?_
        refine WL.skipG rfl rfl rfl rfl rfl rfl ?_
        refine WL.skipG rfl rfl rfl rfl rfl rfl ?_
        refine WL.skipG rfl rfl rfl rfl rfl rfl ?_
        refine WL.want rfl (WL1.give rfl (g_pickT rfl (.mk rfl rfl) (.mk (v := .bool _) rfl rfl)) ?_)
        refine WL.want rfl (WL1.give rfl (g_move rfl (.mk (v := .bool _) rfl rfl)) ?_)
        refine WL.skipG rfl rfl rfl rfl rfl rfl ?_
        refine WL.skipG rfl rfl rfl rfl rfl rfl ?_
        refine WL.want rfl (WL1.give rfl (g_pickT rfl (.mk rfl rfl) (.mk (v := .bool _) rfl rfl)) ?_)
        refine WL.want rfl (WL1.give rfl (g_move rfl (.mk (v := .bool _) rfl rfl)) ?_)
        refine WL.skipG rfl rfl rfl rfl rfl rfl ?_
        refine WL.skipG rfl rfl rfl rfl rfl rfl ?_
        refine WL.skipG rfl rfl rfl rfl rfl rfl ?_
        refine WL.skipG rfl rfl rfl rfl rfl rfl ?_
        refine WL.skipG rfl rfl rfl rfl rfl rfl ?_
        refine WL.skipG rfl rfl rfl rfl rfl rfl ?_
        refine WL.want rfl (WL1.give rfl (g_pickT rfl (.mk rfl rfl) (.mk (v := .bool _) rfl rfl)) ?_)
        refine WL.nil ?_
        (refine hK _ _ ?_; clear hK)
        refine WC.cond_true (.mk rfl rfl) ?_
        (refine WC.seq ?_; intro K hK)
        refine WC.region rfl ?_
        refine WL.want rfl (WL1.give rfl (g_assign rfl (.mk (v := .slice _ _ _) rfl rfl)) ?_)
        refine WL.want rfl (WL1.give rfl (g_assign rfl (.mk (v := .int _ _) rfl rfl)) ?_)
        refine WL.nil ?_
        (refine hK _ _ ?_; clear hK)
        refine WC.ret ?_
        exact fun w' hw' => ⟨_, _, rfl, hw', .inl ⟨hbad fun h => by have := h.1; omega, rfl⟩⟩
      obtain ⟨rn, rfl⟩ : ∃ rn : Nat, r = (rn : Int) := ⟨r.toNat, by omega⟩
      by_cases o2 : rn < ra.length
      · by_cases o3 : cc < 0
        · (refine WC.seq ?_; intro K hK)
          refine WC.region rfl ?_
          refine WL.want rfl (WL1.give rfl (g_lt rfl (.mk rfl rfl) (.mk rfl rfl) (decide_eq_true (by omega))) ?_)
          refine WL.nil ?_
          (refine hK _ _ ?_; clear hK)
          (refine WC.seq ?_; intro K hK)
          refine WC.cond_true (.mk rfl rfl) ?_
          refine WC.skip ?_
          (refine hK _ _ ?_; clear hK)
          (refine WC.seq ?_; intro K hK)
          refine WC.block ?_
          (refine WC.seq ?_; intro K hK)
          refine WC.region rfl ?_
          refine WL.want rfl (WL1.give rfl (g_move rfl (.mk (v := .int _ _) rfl rfl)) ?_)
          refine WL.want rfl (WL1.give rfl (g_indexAddr (sz := 1) rfl (.mk rfl rfl) (.mk rfl rfl) rfl rfl rfl (by omega) (fun _ _ => sl_some hsc (by omega))) ?_)
          refine WL.want rfl (WL1.give rfl (g_load rfl (.mk rfl rfl) rfl (rd_sl hsc hgc)) ?_)
          refine WL.want rfl (WL1.give rfl (g_assign rfl (.mk (v := .int _ _) rfl rfl)) ?_)
          refine WL.want rfl (WL1.give rfl (g_assign rfl (.mk (v := .int _ _) rfl rfl)) ?_)
          refine WL.nil ?_
          (refine hK _ _ ?_; clear hK)
          (refine WC.seq ?_; intro K hK)
          (refine WC.seq ?_; intro K hK)
          refine WC.region rfl ?_
          refine WL.want rfl (WL1.give rfl (g_move rfl (.mk (v := .int _ _) rfl rfl)) ?_)
          refine WL.want rfl (WL1.give rfl (g_lt rfl (.mk rfl rfl) (.mk rfl rfl) (decide_eq_false (by omega))) ?_)
          refine WL.want rfl (WL1.give rfl (g_move rfl (.mk (v := .bool _) rfl rfl)) ?_)
          refine WL.wantG rfl rfl rfl rfl (WL1.give rfl (g_move rfl (.mk (v := .int _ _) rfl rfl)) ?_)
          refine WL.wantG rfl rfl rfl rfl (WL1.give rfl (g_move rfl (.mk (v := .slice _ _ _) rfl rfl)) ?_)
          refine WL.wantG rfl rfl rfl rfl (WL1.give rfl (g_len rfl (.mk rfl rfl) rfl) ?_)
          refine WL.wantG rfl rfl rfl rfl (WL1.give rfl (g_ge rfl (.mk rfl rfl) (.mk rfl rfl) (decide_eq_false (by omega))) ?_)
          refine WL.want rfl (WL1.give rfl (g_pickF rfl (.mk rfl rfl) (.mk (v := .bool _) rfl rfl)) ?_)
          refine WL.want rfl (WL1.give rfl (g_move rfl (.mk (v := .bool _) rfl rfl)) ?_)
          refine WL.wantG rfl rfl rfl rfl (WL1.give rfl (g_move rfl (.mk (v := .int _ _) rfl rfl)) ?_)
          refine WL.wantG rfl rfl rfl rfl (WL1.give rfl (g_lt rfl (.mk rfl rfl) (.mk rfl rfl) (decide_eq_true (by omega))) ?_)
          refine WL.want rfl (WL1.give rfl (g_pickF rfl (.mk rfl rfl) (.mk (v := .bool _) rfl rfl)) ?_)
          refine WL.want rfl (WL1.give rfl (g_move rfl (.mk (v := .bool _) rfl rfl)) ?_)
          refine WL.skipG rfl rfl rfl rfl rfl rfl ?_
          refine WL.skipG rfl rfl rfl rfl rfl rfl ?_
          refine WL.skipG rfl rfl rfl rfl rfl rfl ?_
          refine WL.skipG rfl rfl rfl rfl rfl rfl ?_
          refine WL.skipG rfl rfl rfl rfl rfl rfl ?_
          refine WL.skipG rfl rfl rfl rfl rfl rfl ?_
          refine WL.want rfl (WL1.give rfl (g_pickT rfl (.mk rfl rfl) (.mk (v := .bool _) rfl rfl)) ?_)
          refine WL.nil ?_
          (refine hK _ _ ?_; clear hK)
          refine WC.cond_true (.mk rfl rfl) ?_
          (refine WC.seq ?_; intro K hK)
          refine WC.region rfl ?_
          refine WL.want rfl (WL1.give rfl (g_assign rfl (.mk (v := .slice _ _ _) rfl rfl)) ?_)
          refine WL.want rfl (WL1.give rfl (g_assign rfl (.mk (v := .int _ _) rfl rfl)) ?_)
          refine WL.nil ?_
          (refine hK _ _ ?_; clear hK)
          refine WC.ret ?_
          exact fun w' hw' => ⟨_, _, rfl, hw', .inl ⟨hbad fun h => by have := h.2.2.1; omega, rfl⟩⟩
        obtain ⟨cn, rfl⟩ : ∃ cn : Nat, cc = (cn : Int) := ⟨cc.toNat, by omega⟩
        by_cases o4 : cn < (nth ra 0).l.length
        · have hri : (nth rs i).l = nth (selP (els ra) rl cl i k) i := els_row hre (by omega)
          have hrll : (nth rs i).l.length = cl.length := by rw [hri, selP_row hlt]; simp
          have hral := hg.row o2
          (refine WC.seq ?_; intro K hK)
          refine WC.region rfl ?_
          refine WL.want rfl (WL1.give rfl (g_lt rfl (.mk rfl rfl) (.mk rfl rfl) (decide_eq_true (by omega))) ?_)
          refine WL.nil ?_
          (refine hK _ _ ?_; clear hK)
          (refine WC.seq ?_; intro K hK)
          refine WC.cond_true (.mk rfl rfl) ?_
          refine WC.skip ?_
          (refine hK _ _ ?_; clear hK)
          (refine WC.seq ?_; intro K hK)
          refine WC.block ?_
          (refine WC.seq ?_; intro K hK)
          refine WC.region rfl ?_
          refine WL.want rfl (WL1.give rfl (g_move rfl (.mk (v := .int _ _) rfl rfl)) ?_)
          refine WL.want rfl (WL1.give rfl (g_indexAddr (sz := 1) rfl (.mk rfl rfl) (.mk rfl rfl) rfl rfl rfl (by omega) (fun _ _ => sl_some hsc (by omega))) ?_)
          refine WL.want rfl (WL1.give rfl (g_load rfl (.mk rfl rfl) rfl (rd_sl hsc hgc)) ?_)
          refine WL.want rfl (WL1.give rfl (g_assign rfl (.mk (v := .int _ _) rfl rfl)) ?_)
          refine WL.want rfl (WL1.give rfl (g_assign rfl (.mk (v := .int _ _) rfl rfl)) ?_)
          refine WL.nil ?_
          (refine hK _ _ ?_; clear hK)
          (refine WC.seq ?_; intro K hK)
          (refine WC.seq ?_; intro K hK)
          refine WC.region rfl ?_
          refine WL.want rfl (WL1.give rfl (g_move rfl (.mk (v := .int _ _) rfl rfl)) ?_)
          refine WL.want rfl (WL1.give rfl (g_lt rfl (.mk rfl rfl) (.mk rfl rfl) (decide_eq_false (by omega))) ?_)
          refine WL.want rfl (WL1.give rfl (g_move rfl (.mk (v := .bool _) rfl rfl)) ?_)
          refine WL.wantG rfl rfl rfl rfl (WL1.give rfl (g_move rfl (.mk (v := .int _ _) rfl rfl)) ?_)
          refine WL.wantG rfl rfl rfl rfl (WL1.give rfl (g_move rfl (.mk (v := .slice _ _ _) rfl rfl)) ?_)
          refine WL.wantG rfl rfl rfl rfl (WL1.give rfl (g_len rfl (.mk rfl rfl) rfl) ?_)
          refine WL.wantG rfl rfl rfl rfl (WL1.give rfl (g_ge rfl (.mk rfl rfl) (.mk rfl rfl) (decide_eq_false (by omega))) ?_)
          refine WL.want rfl (WL1.give rfl (g_pickF rfl (.mk rfl rfl) (.mk (v := .bool _) rfl rfl)) ?_)
          refine WL.want rfl (WL1.give rfl (g_move rfl (.mk (v := .bool _) rfl rfl)) ?_)
          refine WL.wantG rfl rfl rfl rfl (WL1.give rfl (g_move rfl (.mk (v := .int _ _) rfl rfl)) ?_)
          refine WL.wantG rfl rfl rfl rfl (WL1.give rfl (g_lt rfl (.mk rfl rfl) (.mk rfl rfl) (decide_eq_false (by omega))) ?_)
          refine WL.want rfl (WL1.give rfl (g_pickF rfl (.mk rfl rfl) (.mk (v := .bool _) rfl rfl)) ?_)
          refine WL.want rfl (WL1.give rfl (g_move rfl (.mk (v := .bool _) rfl rfl)) ?_)
          refine WL.wantG rfl rfl rfl rfl (WL1.give rfl (g_move rfl (.mk (v := .int _ _) rfl rfl)) ?_)
          refine WL.wantG rfl rfl rfl rfl (WL1.give rfl (g_move rfl (.mk (v := .slice _ _ _) rfl rfl)) ?_)
          refine WL.wantG rfl rfl rfl rfl (WL1.give rfl (g_indexAddr (sz := 1) rfl (.mk rfl rfl) (.mk rfl rfl) rfl rfl (show _ = ((0 : Nat) : Int) from rfl) (by omega) (fun _ _ => sl_some hs (by omega))) ?_)
          refine WL.wantG rfl rfl rfl rfl (WL1.give rfl (g_load rfl (.mk rfl rfl) rfl (rd_sl hs (get1 (by omega)))) ?_)
          refine WL.wantG rfl rfl rfl rfl (WL1.give rfl (g_len rfl (.mk rfl rfl) rfl) ?_)
          refine WL.wantG rfl rfl rfl rfl (WL1.give rfl (g_ge rfl (.mk rfl rfl) (.mk rfl rfl) (decide_eq_false (by omega))) ?_)
          refine WL.want rfl (WL1.give rfl (g_pickF rfl (.mk rfl rfl) (.mk (v := .bool _) rfl rfl)) ?_)
          refine WL.nil ?_
          (refine hK _ _ ?_; clear hK)
          refine WC.cond_false (.mk rfl rfl) ?_
          refine WC.skip ?_
          (refine hK _ _ ?_; clear hK)
          refine WC.split 13 rfl (by kernel_rfl) (by decide +kernel) ?_
          refine WQ.want rfl (WQ1.give rfl (g_move rfl (.mk (v := .slice _ _ _) rfl rfl)) ?_)
          refine WQ.want rfl (WQ1.give rfl (g_move rfl (.mk (v := .int _ _) rfl rfl)) ?_)
          refine WQ.want rfl (WQ1.give rfl (g_indexAddr (sz := 1) rfl (.mk rfl rfl) (.mk rfl rfl) rfl rfl rfl (by omega) (fun w hw => vec_some hw (.head _) (by omega))) ?_)
          refine WQ.want rfl (WQ1.give rfl (g_load rfl (.mk rfl rfl) rfl (rd_vec (.head _) (get1 (by omega)))) ?_)
          refine WQ.want rfl (WQ1.give rfl (g_move rfl (.mk (v := .int _ _) rfl rfl)) ?_)
          refine WQ.want rfl (WQ1.give rfl (g_move rfl (.mk (v := .slice _ _ _) rfl rfl)) ?_)
          refine WQ.want rfl (WQ1.give rfl (g_move rfl (.mk (v := .int _ _) rfl rfl)) ?_)
          refine WQ.want rfl (WQ1.give rfl (g_indexAddr (sz := 1) rfl (.mk rfl rfl) (.mk rfl rfl) rfl rfl rfl (by omega) (fun _ _ => sl_some hs (by omega))) ?_)
          refine WQ.want rfl (WQ1.give rfl (g_load rfl (.mk rfl rfl) rfl (rd_sl hs (get1 (by omega)))) ?_)
          refine WQ.want rfl (WQ1.give rfl (g_move rfl (.mk (v := .int _ _) rfl rfl)) ?_)
          refine WQ.want rfl (WQ1.give rfl (g_indexAddr (sz := 1) rfl (.mk rfl rfl) (.mk rfl rfl) rfl rfl rfl (by omega) (fun _ _ => sl_some (ha.row (by omega)) (by omega))) ?_)
          refine WQ.want rfl (WQ1.give rfl (g_load rfl (.mk rfl rfl) rfl (rd_sl (ha.row (by omega)) (get1 (by omega)))) ?_)
          refine WQ.want rfl (WQ1.give rfl (g_indexAddr (sz := 1) rfl (.mk rfl rfl) (.mk rfl rfl) rfl rfl rfl (by omega) (rowA_some (.tail _ (.head _)) (by omega) (by omega))) ?_)
          refine WQ.nil ?_
          refine WY.one 13 (by decide +kernel) rfl rfl ?_
          refine WL1.storeRow rfl rfl (.mk rfl rfl) rfl rfl (.mk rfl rfl) rfl rfl (by omega) (by omega) (.tail (.head)) ?_
          refine WL.nil ?_
          refine WY.done (by decide +kernel) ?_
          (refine hK _ _ ?_; clear hK)
          refine WC.region rfl ?_
          refine WL.want rfl (WL1.give rfl (g_add rfl (.mk rfl rfl) (.mk rfl rfl) (IntWalk.i64_in _ (by omega))) ?_)
          refine WL.want rfl (WL1.give rfl (g_move rfl (.mk (v := .int _ _) rfl rfl)) ?_)
          refine WL.nil ?_
          refine ⟨k + 1, rs.set i ((nth rs i).put k (nth (nth ra rn).l cn)), (by repeat (first | with_reducible exact Out.refl _ _ | refine Out.set rfl ?_ | refine Out.put rfl ?_ | refine Out.sets rfl ?_ | refine Out.hav rfl ?_ | exact Out.refl _ _)), ⟨rfl, trivial⟩, by rw [rowsv_put (by omega)]; exact .refl _, ⟨by omega, by rw [List.length_set, hrl], ?_, fun q hq => ?_⟩, by omega⟩
          · rw [put_els (by omega), hre, el_row o2]
            have := selP_set (m := els ra) hlt hlt2
            rwa [← hr, ← hcq, Int.toNat_natCast, Int.toNat_natCast] at this
          · by_cases e : q = k
            · rw [e, ← hcq]; exact ⟨by omega, by omega, by omega, by omega⟩
            · exact hok2 q (by omega)
        · (refine WC.seq ?_; intro K hK)
          refine WC.region rfl ?_
          refine WL.want rfl (WL1.give rfl (g_lt rfl (.mk rfl rfl) (.mk rfl rfl) (decide_eq_true (by omega))) ?_)
          refine WL.nil ?_
          (refine hK _ _ ?_; clear hK)
          (refine WC.seq ?_; intro K hK)
          refine WC.cond_true (.mk rfl rfl) ?_
          refine WC.skip ?_
          (refine hK _ _ ?_; clear hK)
          (refine WC.seq ?_; intro K hK)
          refine WC.block ?_
          (refine WC.seq ?_; intro K hK)
          refine WC.region rfl ?_
          refine WL.want rfl (WL1.give rfl (g_move rfl (.mk (v := .int _ _) rfl rfl)) ?_)
          refine WL.want rfl (WL1.give rfl (g_indexAddr (sz := 1) rfl (.mk rfl rfl) (.mk rfl rfl) rfl rfl rfl (by omega) (fun _ _ => sl_some hsc (by omega))) ?_)
          refine WL.want rfl (WL1.give rfl (g_load rfl (.mk rfl rfl) rfl (rd_sl hsc hgc)) ?_)
          refine WL.want rfl (WL1.give rfl (g_assign rfl (.mk (v := .int _ _) rfl rfl)) ?_)
          refine WL.want rfl (WL1.give rfl (g_assign rfl (.mk (v := .int _ _) rfl rfl)) ?_)
          refine WL.nil ?_
          (refine hK _ _ ?_; clear hK)
          (refine WC.seq ?_; intro K hK)
          (refine WC.seq ?_; intro K hK)
          refine WC.region rfl ?_
          refine WL.want rfl (WL1.give rfl (g_move rfl (.mk (v := .int _ _) rfl rfl)) ?_)
          refine WL.want rfl (WL1.give rfl (g_lt rfl (.mk rfl rfl) (.mk rfl rfl) (decide_eq_false (by omega))) ?_)
          refine WL.want rfl (WL1.give rfl (g_move rfl (.mk (v := .bool _) rfl rfl)) ?_)
          refine WL.wantG rfl rfl rfl rfl (WL1.give rfl (g_move rfl (.mk (v := .int _ _) rfl rfl)) ?_)
          refine WL.wantG rfl rfl rfl rfl (WL1.give rfl (g_move rfl (.mk (v := .slice _ _ _) rfl rfl)) ?_)
          refine WL.wantG rfl rfl rfl rfl (WL1.give rfl (g_len rfl (.mk rfl rfl) rfl) ?_)
          refine WL.wantG rfl rfl rfl rfl (WL1.give rfl (g_ge rfl (.mk rfl rfl) (.mk rfl rfl) (decide_eq_false (by omega))) ?_)
          refine WL.want rfl (WL1.give rfl (g_pickF rfl (.mk rfl rfl) (.mk (v := .bool _) rfl rfl)) ?_)
          refine WL.want rfl (WL1.give rfl (g_move rfl (.mk (v := .bool _) rfl rfl)) ?_)
          refine WL.wantG rfl rfl rfl rfl (WL1.give rfl (g_move rfl (.mk (v := .int _ _) rfl rfl)) ?_)
          refine WL.wantG rfl rfl rfl rfl (WL1.give rfl (g_lt rfl (.mk rfl rfl) (.mk rfl rfl) (decide_eq_false (by omega))) ?_)
          refine WL.want rfl (WL1.give rfl (g_pickF rfl (.mk rfl rfl) (.mk (v := .bool _) rfl rfl)) ?_)
          refine WL.want rfl (WL1.give rfl (g_move rfl (.mk (v := .bool _) rfl rfl)) ?_)
          refine WL.wantG rfl rfl rfl rfl (WL1.give rfl (g_move rfl (.mk (v := .int _ _) rfl rfl)) ?_)
          refine WL.wantG rfl rfl rfl rfl (WL1.give rfl (g_move rfl (.mk (v := .slice _ _ _) rfl rfl)) ?_)
          refine WL.wantG rfl rfl rfl rfl (WL1.give rfl (g_indexAddr (sz := 1) rfl (.mk rfl rfl) (.mk rfl rfl) rfl rfl (show _ = ((0 : Nat) : Int) from rfl) (by omega) (fun _ _ => sl_some hs (by omega))) ?_)
          refine WL.wantG rfl rfl rfl rfl (WL1.give rfl (g_load rfl (.mk rfl rfl) rfl (rd_sl hs (get1 (by omega)))) ?_)
          refine WL.wantG rfl rfl rfl rfl (WL1.give rfl (g_len rfl (.mk rfl rfl) rfl) ?_)
          refine WL.wantG rfl rfl rfl rfl (WL1.give rfl (g_ge rfl (.mk rfl rfl) (.mk rfl rfl) (decide_eq_true (by omega))) ?_)
          refine WL.want rfl (WL1.give rfl (g_pickF rfl (.mk rfl rfl) (.mk (v := .bool _) rfl rfl)) ?_)
          refine WL.nil ?_
          (refine hK _ _ ?_; clear hK)
          refine WC.cond_true (.mk rfl rfl) ?_
          (refine WC.seq ?_; intro K hK)
          refine WC.region rfl ?_
          refine WL.want rfl (WL1.give rfl (g_assign rfl (.mk (v := .slice _ _ _) rfl rfl)) ?_)
          refine WL.want rfl (WL1.give rfl (g_assign rfl (.mk (v := .int _ _) rfl rfl)) ?_)
          refine WL.nil ?_
          (refine hK _ _ ?_; clear hK)
          refine WC.ret ?_
          exact fun w' hw' => ⟨_, _, rfl, hw', .inl ⟨hbad fun h => by have := h.2.2.2; omega, rfl⟩⟩
      · (refine WC.seq ?_; intro K hK)
        refine WC.region rfl ?_
        refine WL.want rfl (WL1.give rfl (g_lt rfl (.mk rfl rfl) (.mk rfl rfl) (decide_eq_true (by omega))) ?_)
        refine WL.nil ?_
        (refine hK _ _ ?_; clear hK)
        (refine WC.seq ?_; intro K hK)
        refine WC.cond_true (.mk rfl rfl) ?_
        refine WC.skip ?_
        (refine hK _ _ ?_; clear hK)
        (refine WC.seq ?_; intro K hK)
        refine WC.block ?_
        (refine WC.seq ?_; intro K hK)
        refine WC.region rfl ?_
        refine WL.want rfl (WL1.give rfl (g_move rfl (.mk (v := .int _ _) rfl rfl)) ?_)
        refine WL.want rfl (WL1.give rfl (g_indexAddr (sz := 1) rfl (.mk rfl rfl) (.mk rfl rfl) rfl rfl rfl (by omega) (fun _ _ => sl_some hsc (by omega))) ?_)
        refine WL.want rfl (WL1.give rfl (g_load rfl (.mk rfl rfl) rfl (rd_sl hsc hgc)) ?_)
        refine WL.want rfl (WL1.give rfl (g_assign rfl (.mk (v := .int _ _) rfl rfl)) ?_)
        refine WL.want rfl (WL1.give rfl (g_assign rfl (.mk (v := .int _ _) rfl rfl)) ?_)
        refine WL.nil ?_
        (refine hK _ _ ?_; clear hK)
        (refine WC.seq ?_; intro K hK)
        (refine WC.seq ?_; intro K hK)
        refine WC.region rfl ?_
        refine WL.want rfl (WL1.give rfl (g_move rfl (.mk (v := .int _ _) rfl rfl)) ?_)
        refine WL.want rfl (WL1.give rfl (g_lt rfl (.mk rfl rfl) (.mk rfl rfl) (decide_eq_false (by omega))) ?_)
        refine WL.want rfl (WL1.give rfl (g_move rfl (.mk (v := .bool _) rfl rfl)) ?_)
        refine WL.wantG rfl rfl rfl rfl (WL1.give rfl (g_move rfl (.mk (v := .int _ _) rfl rfl)) ?_)
        refine WL.wantG rfl rfl rfl rfl (WL1.give rfl (g_move rfl (.mk (v := .slice _ _ _) rfl rfl)) ?_)
        refine WL.wantG rfl rfl rfl rfl (WL1.give rfl (g_len rfl (.mk rfl rfl) rfl) ?_)
        refine WL.wantG rfl rfl rfl rfl (WL1.give rfl (g_ge rfl (.mk rfl rfl) (.mk rfl rfl) (decide_eq_true (by omega))) ?_)
        refine WL.want rfl (WL1.give rfl (g_pickF rfl (.mk rfl rfl) (.mk (v := .bool _) rfl rfl)) ?_)
        refine WL.want rfl (WL1.give rfl (g_move rfl (.mk (v := .bool _) rfl rfl)) ?_)
        refine WL.skipG rfl rfl rfl rfl rfl rfl ?_
        refine WL.skipG rfl rfl rfl rfl rfl rfl ?_
        refine WL.want rfl (WL1.give rfl (g_pickT rfl (.mk rfl rfl) (.mk (v := .bool _) rfl rfl)) ?_)
        refine WL.want rfl (WL1.give rfl (g_move rfl (.mk (v := .bool _) rfl rfl)) ?_)
        refine WL.skipG rfl rfl rfl rfl rfl rfl ?_
        refine WL.skipG rfl rfl rfl rfl rfl rfl ?_
        refine WL.skipG rfl rfl rfl rfl rfl rfl ?_
        refine WL.skipG rfl rfl rfl rfl rfl rfl ?_
        refine WL.skipG rfl rfl rfl rfl rfl rfl ?_
        refine WL.skipG rfl rfl rfl rfl rfl rfl ?_
        refine WL.want rfl (WL1.give rfl (g_pickT rfl (.mk rfl rfl) (.mk (v := .bool _) rfl rfl)) ?_)
        refine WL.nil ?_
        (refine hK _ _ ?_; clear hK)
        refine WC.cond_true (.mk rfl rfl) ?_
        (refine WC.seq ?_; intro K hK)
        refine WC.region rfl ?_
        refine WL.want rfl (WL1.give rfl (g_assign rfl (.mk (v := .slice _ _ _) rfl rfl)) ?_)
        refine WL.want rfl (WL1.give rfl (g_assign rfl (.mk (v := .int _ _) rfl rfl)) ?_)
        refine WL.nil ?_
        (refine hK _ _ ?_; clear hK)
        refine WC.ret ?_
        exact fun w' hw' => ⟨_, _, rfl, hw', .inl ⟨hbad fun h => by have := h.2.1; omega, rfl⟩⟩
    · obtain rfl : k = cl.length := by omega
      (refine WC.seq ?_; intro K hK)
      refine WC.region rfl ?_
      refine WL.want rfl (WL1.give rfl (g_lt rfl (.mk rfl rfl) (.mk rfl rfl) (decide_eq_false (by omega))) ?_)
      refine WL.nil ?_
      (refine hK _ _ ?_; clear hK)
      (refine WC.seq ?_; intro K hK)
      refine WC.cond_false (.mk rfl rfl) ?_
      refine WC.exit ?_
      (clear hK; refine hK _ _ ?_; clear hK)
      refine WC.region rfl ?_
      refine WL.want rfl (WL1.give rfl (g_add rfl (.mk rfl rfl) (.mk rfl rfl) (IntWalk.i64_in _ (by omega))) ?_)
      refine WL.want rfl (WL1.give rfl (g_move rfl (.mk (v := .int _ _) rfl rfl)) ?_)
      refine WL.nil ?_
      refine ⟨i + 1, rs, (by repeat (first | with_reducible exact Out.refl _ _ | refine Out.set rfl ?_ | refine Out.put rfl ?_ | refine Out.sets rfl ?_ | refine Out.hav rfl ?_ | exact Out.refl _ _)), ⟨rfl, trivial⟩, .refl _, ⟨by omega, hrl, by rw [hre, selP_next], fun p hp q hq => ?_⟩, by omega⟩
      by_cases e : p = i
      · rw [e, ← hr]; exact hok2 q hq
      · exact hok p (by omega) q hq
  · obtain rfl : i = rl.length := by omega
    (refine WC.seq ?_; intro K hK)
    refine WC.region rfl ?_
    refine WL.want rfl (WL1.give rfl (g_lt rfl (.mk rfl rfl) (.mk rfl rfl) (decide_eq_false (by omega))) ?_)
    refine WL.nil ?_
    (refine hK _ _ ?_; clear hK)
    (refine WC.seq ?_; intro K hK)
    refine WC.cond_false (.mk rfl rfl) ?_
    refine WC.exit ?_
    (clear hK; refine hK _ _ ?_; clear hK)
    (refine WC.seq ?_; intro K hK)
    refine WC.region rfl ?_
    refine WL.want rfl (WL1.give rfl (g_move rfl (.mk (v := .slice _ _ _) rfl rfl)) ?_)
    refine WL.want rfl (WL1.give rfl (g_assign rfl (.mk (v := .slice _ _ _) rfl rfl)) ?_)
    refine WL.want rfl (WL1.give rfl (g_assign rfl (.mk (v := .int _ _) rfl rfl)) ?_)
    refine WL.nil ?_
    (refine hK _ _ ?_; clear hK)
    refine WC.ret ?_
    exact fun w' hw' => ⟨_, _, rfl, hw', .inr ⟨hok, Ao, co, rs, by show Value.tuple #[.slice Ao r0.length co, iv 0] = _; rw [hrl, hrl0], by rw [matM, hrl, hrl0], by rw [hre, selP_all]⟩⟩
set_option maxRecDepth 20000 in
set_option maxHeartbeats 2000000 in
theorem select_bad (va vr vc : Value) (ra : List Row) (rl cl : List Int) (w : World) (ha : MatAt w va ra) (hr : Sl w 1 vr rl.length (ivs rl)) (hc : Sl w 1 vc cl.length (ivs cl)) (h : ¬ (Good (els ra) ∧ 1 ≤ rl.length ∧ rl.length ≤ 64 ∧ 1 ≤ cl.length ∧ cl.length ≤ 64)) :
    Calls Try.prog 31 #[va, vr, vc] w fun e w' => e = .returned (.tuple #[.slice none 0 0, iv 1]) ∧ Below w.heap.size w w' := by
  obtain ⟨A, c, rfl, hcc, hm, hs⟩ := ha.1.open_
  obtain ⟨B, d, rfl, hcd, hmd, hsr⟩ := hr.open_
  obtain ⟨D, f, rfl, hcf, hmf, hsc⟩ := hc.open_
  unfold maxLen at hmd hmf
  have hval := fun w' hb => valid_e _ ra w' (ha.below (w' := w') hb)
  by_cases hg : Good (els ra)
  · rw [goodB_iff.2 hg] at hval
    by_cases h1 : 1 ≤ rl.length
    · by_cases h2 : rl.length ≤ 64
      · by_cases h3 : 1 ≤ cl.length
        · have h4 : ¬ cl.length ≤ 64 := fun h4 => h ⟨hg, h1, h2, h3, h4⟩
          refine calls_wc (args := [.slice A ra.length c, .slice B rl.length d, .slice D cl.length f]) [6, 7] [] Try.func31 rfl Try.ntmps31 rfl rfl rfl rfl (H.refl w) ?_
          (refine WC.seq ?_; intro K hK)
          refine WC.region rfl ?_
          refine WL.want rfl (WL1.give rfl (g_assign rfl (.mk (v := .slice _ _ _) rfl rfl)) ?_)
          refine WL.want rfl (WL1.give rfl (g_assign rfl (.mk (v := .int _ _) rfl rfl)) ?_)
          refine WL.nil ?_
          (refine hK _ _ ?_; clear hK)
          (refine WC.seq ?_; intro K hK)
          (refine WC.seq ?_; intro K hK)
          refine WC.region rfl ?_
          refine WL.want rfl (WL1.give rfl (g_move rfl (.mk (v := .slice _ _ _) rfl rfl)) ?_)
          refine WL.want rfl (WL1.callP rfl rfl rfl (.cons (.mk (v := .slice _ _ _) rfl rfl) .nil) (fun w hw => hval w hw.1) ?_)
          refine WL.want rfl (WL1.give rfl (g_notT rfl (.mk rfl rfl)) ?_)
          refine WL.want rfl (WL1.give rfl (g_move rfl (.mk (v := .bool _) rfl rfl)) ?_)
          refine WL.wantG rfl rfl rfl rfl (WL1.give rfl (g_move rfl (.mk (v := .slice _ _ _) rfl rfl)) ?_)
          refine WL.wantG rfl rfl rfl rfl (WL1.give rfl (g_len rfl (.mk rfl rfl) rfl) ?_)
          refine WL.wantG rfl rfl rfl rfl (WL1.give rfl (g_lt rfl (.mk rfl rfl) (.mk rfl rfl) (decide_eq_false (by omega))) ?_)
          refine WL.want rfl (WL1.give rfl (g_pickF rfl (.mk rfl rfl) (.mk (v := .bool _) rfl rfl)) ?_)
          refine WL.want rfl (WL1.give rfl (g_move rfl (.mk (v := .bool _) rfl rfl)) ?_)
          refine WL.wantG rfl rfl rfl rfl (WL1.give rfl (g_move rfl (.mk (v := .slice _ _ _) rfl rfl)) ?_)
          refine WL.wantG rfl rfl rfl rfl (WL1.give rfl (g_len rfl (.mk rfl rfl) rfl) ?_)
          refine WL.wantG rfl rfl rfl rfl (WL1.give rfl (g_gt rfl (.mk rfl rfl) (.mk rfl rfl) (decide_eq_false (by omega))) ?_)
          refine WL.want rfl (WL1.give rfl (g_pickF rfl (.mk rfl rfl) (.mk (v := .bool _) rfl rfl)) ?_)
          refine WL.want rfl (WL1.give rfl (g_move rfl (.mk (v := .bool _) rfl rfl)) ?_)
          refine WL.wantG rfl rfl rfl rfl (WL1.give rfl (g_move rfl (.mk (v := .slice _ _ _) rfl rfl)) ?_)
          refine WL.wantG rfl rfl rfl rfl (WL1.give rfl (g_len rfl (.mk rfl rfl) rfl) ?_)
          refine WL.wantG rfl rfl rfl rfl (WL1.give rfl (g_lt rfl (.mk rfl rfl) (.mk rfl rfl) (decide_eq_false (by omega))) ?_)
          refine WL.want rfl (WL1.give rfl (g_pickF rfl (.mk rfl rfl) (.mk (v := .bool _) rfl rfl)) ?_)
          refine WL.want rfl (WL1.give rfl (g_move rfl (.mk (v := .bool _) rfl rfl)) ?_)
          refine WL.wantG rfl rfl rfl rfl (WL1.give rfl (g_move rfl (.mk (v := .slice _ _ _) rfl rfl)) ?_)
          refine WL.wantG rfl rfl rfl rfl (WL1.give rfl (g_len rfl (.mk rfl rfl) rfl) ?_)
          refine WL.wantG rfl rfl rfl rfl (WL1.give rfl (g_gt rfl (.mk rfl rfl) (.mk rfl rfl) (decide_eq_true (by omega))) ?_)
          refine WL.want rfl (WL1.give rfl (g_pickF rfl (.mk rfl rfl) (.mk (v := .bool _) rfl rfl)) ?_)
          refine WL.nil ?_
          (refine hK _ _ ?_; clear hK)
          refine WC.cond_true (.mk rfl rfl) ?_
          (refine WC.seq ?_; intro K hK)
          refine WC.region rfl ?_
          refine WL.want rfl (WL1.give rfl (g_assign rfl (.mk (v := .slice _ _ _) rfl rfl)) ?_)
          refine WL.want rfl (WL1.give rfl (g_assign rfl (.mk (v := .int _ _) rfl rfl)) ?_)
          refine WL.nil ?_
          (refine hK _ _ ?_; clear hK)
          refine WC.ret ?_
          exact fun w' hw' => ⟨rfl, hw'.1⟩
        · refine calls_wc (args := [.slice A ra.length c, .slice B rl.length d, .slice D cl.length f]) [6, 7] [] Try.func31 rfl Try.ntmps31 rfl rfl rfl rfl (H.refl w) ?_
          (refine WC.seq ?_; intro K hK)
          refine WC.region rfl ?_
          refine WL.want rfl (WL1.give rfl (g_assign rfl (.mk (v := .slice _ _ _) rfl rfl)) ?_)
          refine WL.want rfl (WL1.give rfl (g_assign rfl (.mk (v := .int _ _) rfl rfl)) ?_)
          refine WL.nil ?_
          (refine hK _ _ ?_; clear hK)
          (refine WC.seq ?_; intro K hK)
          (refine WC.seq ?_; intro K hK)
          refine WC.region rfl ?_
          refine WL.want rfl (WL1.give rfl (g_move rfl (.mk (v := .slice _ _ _) rfl rfl)) ?_)
          refine WL.want rfl (WL1.callP rfl rfl rfl (.cons (.mk (v := .slice _ _ _) rfl rfl) .nil) (fun w hw => hval w hw.1) ?_)
          refine WL.want rfl (WL1.give rfl (g_notT rfl (.mk rfl rfl)) ?_)
          refine WL.want rfl (WL1.give rfl (g_move rfl (.mk (v := .bool _) rfl rfl)) ?_)
          refine WL.wantG rfl rfl rfl rfl (WL1.give rfl (g_move rfl (.mk (v := .slice _ _ _) rfl rfl)) ?_)
          refine WL.wantG rfl rfl rfl rfl (WL1.give rfl (g_len rfl (.mk rfl rfl) rfl) ?_)
          refine WL.wantG rfl rfl rfl rfl (WL1.give rfl (g_lt rfl (.mk rfl rfl) (.mk rfl rfl) (decide_eq_false (by omega))) ?_)
          refine WL.want rfl (WL1.give rfl (g_pickF rfl (.mk rfl rfl) (.mk (v := .bool _) rfl rfl)) ?_)
          refine WL.want rfl (WL1.give rfl (g_move rfl (.mk (v := .bool _) rfl rfl)) ?_)
          refine WL.wantG rfl rfl rfl rfl (WL1.give rfl (g_move rfl (.mk (v := .slice _ _ _) rfl rfl)) ?_)
          refine WL.wantG rfl rfl rfl rfl (WL1.give rfl (g_len rfl (.mk rfl rfl) rfl) ?_)
          refine WL.wantG rfl rfl rfl rfl (WL1.give rfl (g_gt rfl (.mk rfl rfl) (.mk rfl rfl) (decide_eq_false (by omega))) ?_)
          refine WL.want rfl (WL1.give rfl (g_pickF rfl (.mk rfl rfl) (.mk (v := .bool _) rfl rfl)) ?_)
          refine WL.want rfl (WL1.give rfl (g_move rfl (.mk (v := .bool _) rfl rfl)) ?_)
          refine WL.wantG rfl rfl rfl rfl (WL1.give rfl (g_move rfl (.mk (v := .slice _ _ _) rfl rfl)) ?_)
          refine WL.wantG rfl rfl rfl rfl (WL1.give rfl (g_len rfl (.mk rfl rfl) rfl) ?_)
          refine WL.wantG rfl rfl rfl rfl (WL1.give rfl (g_lt rfl (.mk rfl rfl) (.mk rfl rfl) (decide_eq_true (by omega))) ?_)
          refine WL.want rfl (WL1.give rfl (g_pickF rfl (.mk rfl rfl) (.mk (v := .bool _) rfl rfl)) ?_)
          refine WL.want rfl (WL1.give rfl (g_move rfl (.mk (v := .bool _) rfl rfl)) ?_)
          refine WL.skipG rfl rfl rfl rfl rfl rfl ?_
          refine WL.skipG rfl rfl rfl rfl rfl rfl ?_
          refine WL.skipG rfl rfl rfl rfl rfl rfl ?_
          refine WL.want rfl (WL1.give rfl (g_pickT rfl (.mk rfl rfl) (.mk (v := .bool _) rfl rfl)) ?_)
          refine WL.nil ?_
          (refine hK _ _ ?_; clear hK)
          refine WC.cond_true (.mk rfl rfl) ?_
          (refine WC.seq ?_; intro K hK)
          refine WC.region rfl ?_
          refine WL.want rfl (WL1.give rfl (g_assign rfl (.mk (v := .slice _ _ _) rfl rfl)) ?_)
          refine WL.want rfl (WL1.give rfl (g_assign rfl (.mk (v := .int _ _) rfl rfl)) ?_)
          refine WL.nil ?_
          (refine hK _ _ ?_; clear hK)
          refine WC.ret ?_
          exact fun w' hw' => ⟨rfl, hw'.1⟩
      · refine calls_wc (args := [.slice A ra.length c, .slice B rl.length d, .slice D cl.length f]) [6, 7] [] Try.func31 rfl Try.ntmps31 rfl rfl rfl rfl (H.refl w) ?_
        (refine WC.seq ?_; intro K hK)
        refine WC.region rfl ?_
        refine WL.want rfl (WL1.give rfl (g_assign rfl (.mk (v := .slice _ _ _) rfl rfl)) ?_)
        refine WL.want rfl (WL1.give rfl (g_assign rfl (.mk (v := .int _ _) rfl rfl)) ?_)
        refine WL.nil ?_
        (refine hK _ _ ?_; clear hK)
        (refine WC.seq ?_; intro K hK)
        (refine WC.seq ?_; intro K hK)
        refine WC.region rfl ?_
        refine WL.want rfl (WL1.give rfl (g_move rfl (.mk (v := .slice _ _ _) rfl rfl)) ?_)
        refine WL.want rfl (WL1.callP rfl rfl rfl (.cons (.mk (v := .slice _ _ _) rfl rfl) .nil) (fun w hw => hval w hw.1) ?_)
        refine WL.want rfl (WL1.give rfl (g_notT rfl (.mk rfl rfl)) ?_)
        refine WL.want rfl (WL1.give rfl (g_move rfl (.mk (v := .bool _) rfl rfl)) ?_)
        refine WL.wantG rfl rfl rfl rfl (WL1.give rfl (g_move rfl (.mk (v := .slice _ _ _) rfl rfl)) ?_)
        refine WL.wantG rfl rfl rfl rfl (WL1.give rfl (g_len rfl (.mk rfl rfl) rfl) ?_)
        refine WL.wantG rfl rfl rfl rfl (WL1.give rfl (g_lt rfl (.mk rfl rfl) (.mk rfl rfl) (decide_eq_false (by omega))) ?_)
        refine WL.want rfl (WL1.give rfl (g_pickF rfl (.mk rfl rfl) (.mk (v := .bool _) rfl rfl)) ?_)
        refine WL.want rfl (WL1.give rfl (g_move rfl (.mk (v := .bool _) rfl rfl)) ?_)
        refine WL.wantG rfl rfl rfl rfl (WL1.give rfl (g_move rfl (.mk (v := .slice _ _ _) rfl rfl)) ?_)
        refine WL.wantG rfl rfl rfl rfl (WL1.give rfl (g_len rfl (.mk rfl rfl) rfl) ?_)
        refine WL.wantG rfl rfl rfl rfl (WL1.give rfl (g_gt rfl (.mk rfl rfl) (.mk rfl rfl) (decide_eq_true (by omega))) ?_)
        refine WL.want rfl (WL1.give rfl (g_pickF rfl (.mk rfl rfl) (.mk (v := .bool _) rfl rfl)) ?_)
        refine WL.want rfl (WL1.give rfl (g_move rfl (.mk (v := .bool _) rfl rfl)) ?_)
        refine WL.skipG rfl rfl rfl rfl rfl rfl ?_
        refine WL.skipG rfl rfl rfl rfl rfl rfl ?_
        refine WL.skipG rfl rfl rfl rfl rfl rfl ?_
        refine WL.want rfl (WL1.give rfl (g_pickT rfl (.mk rfl rfl) (.mk (v := .bool _) rfl rfl)) ?_)
        refine WL.want rfl (WL1.give rfl (g_move rfl (.mk (v := .bool _) rfl rfl)) ?_)
        refine WL.skipG rfl rfl rfl rfl rfl rfl ?_
        refine WL.skipG rfl rfl rfl rfl rfl rfl ?_
        refine WL.skipG rfl rfl rfl rfl rfl rfl ?_
        refine WL.want rfl (WL1.give rfl (g_pickT rfl (.mk rfl rfl) (.mk (v := .bool _) rfl rfl)) ?_)
        refine WL.nil ?_
        (refine hK _ _ ?_; clear hK)
        refine WC.cond_true (.mk rfl rfl) ?_
        (refine WC.seq ?_; intro K hK)
        refine WC.region rfl ?_
        refine WL.want rfl (WL1.give rfl (g_assign rfl (.mk (v := .slice _ _ _) rfl rfl)) ?_)
        refine WL.want rfl (WL1.give rfl (g_assign rfl (.mk (v := .int _ _) rfl rfl)) ?_)
        refine WL.nil ?_
        (refine hK _ _ ?_; clear hK)
        refine WC.ret ?_
        exact fun w' hw' => ⟨rfl, hw'.1⟩
    · refine calls_wc (args := [.slice A ra.length c, .slice B rl.length d, .slice D cl.length f]) [6, 7] [] Try.func31 rfl Try.ntmps31 rfl rfl rfl rfl (H.refl w) ?_
      (refine WC.seq ?_; intro K hK)
      refine WC.region rfl ?_
      refine WL.want rfl (WL1.give rfl (g_assign rfl (.mk (v := .slice _ _ _) rfl rfl)) ?_)
      refine WL.want rfl (WL1.give rfl (g_assign rfl (.mk (v := .int _ _) rfl rfl)) ?_)
      refine WL.nil ?_
      (refine hK _ _ ?_; clear hK)
      (refine WC.seq ?_; intro K hK)
      (refine WC.seq ?_; intro K hK)
      refine WC.region rfl ?_
      refine WL.want rfl (WL1.give rfl (g_move rfl (.mk (v := .slice _ _ _) rfl rfl)) ?_)
      refine WL.want rfl (WL1.callP rfl rfl rfl (.cons (.mk (v := .slice _ _ _) rfl rfl) .nil) (fun w hw => hval w hw.1) ?_)
      refine WL.want rfl (WL1.give rfl (g_notT rfl (.mk rfl rfl)) ?_)
      refine WL.want rfl (WL1.give rfl (g_move rfl (.mk (v := .bool _) rfl rfl)) ?_)
      refine WL.wantG rfl rfl rfl rfl (WL1.give rfl (g_move rfl (.mk (v := .slice _ _ _) rfl rfl)) ?_)
      refine WL.wantG rfl rfl rfl rfl (WL1.give rfl (g_len rfl (.mk rfl rfl) rfl) ?_)
      refine WL.wantG rfl rfl rfl rfl (WL1.give rfl (g_lt rfl (.mk rfl rfl) (.mk rfl rfl) (decide_eq_true (by omega))) ?_)
      refine WL.want rfl (WL1.give rfl (g_pickF rfl (.mk rfl rfl) (.mk (v := .bool _) rfl rfl)) ?_)
      refine WL.want rfl (WL1.give rfl (g_move rfl (.mk (v := .bool _) rfl rfl)) ?_)
      refine WL.skipG rfl rfl rfl rfl rfl rfl ?_
      refine WL.skipG rfl rfl rfl rfl rfl rfl ?_
      refine WL.skipG rfl rfl rfl rfl rfl rfl ?_
      refine WL.want rfl (WL1.give rfl (g_pickT rfl (.mk rfl rfl) (.mk (v := .bool _) rfl rfl)) ?_)
      refine WL.want rfl (WL1.give rfl (g_move rfl (.mk (v := .bool _) rfl rfl)) ?_)
      refine WL.skipG rfl rfl rfl rfl rfl rfl ?_
      refine WL.skipG rfl rfl rfl rfl rfl rfl ?_
      refine WL.skipG rfl rfl rfl rfl rfl rfl ?_
      refine WL.want rfl (WL1.give rfl (g_pickT rfl (.mk rfl rfl) (.mk (v := .bool _) rfl rfl)) ?_)
      refine WL.want rfl (WL1.give rfl (g_move rfl (.mk (v := .bool _) rfl rfl)) ?_)
      refine WL.skipG rfl rfl rfl rfl rfl rfl ?_
      refine WL.skipG rfl rfl rfl rfl rfl rfl ?_
      refine WL.skipG rfl rfl rfl rfl rfl rfl ?_
      refine WL.want rfl (WL1.give rfl (g_pickT rfl (.mk rfl rfl) (.mk (v := .bool _) rfl rfl)) ?_)
      refine WL.nil ?_
      (refine hK _ _ ?_; clear hK)
      refine WC.cond_true (.mk rfl rfl) ?_
      (refine WC.seq ?_; intro K hK)
      refine WC.region rfl ?_
      refine WL.want rfl (WL1.give rfl (g_assign rfl (.mk (v := .slice _ _ _) rfl rfl)) ?_)
      refine WL.want rfl (WL1.give rfl (g_assign rfl (.mk (v := .int _ _) rfl rfl)) ?_)
      refine WL.nil ?_
      (refine hK _ _ ?_; clear hK)
      refine WC.ret ?_
      exact fun w' hw' => ⟨rfl, hw'.1⟩
  · rw [goodB_no hg] at hval
    refine calls_wc (args := [.slice A ra.length c, .slice B rl.length d, .slice D cl.length f]) [6, 7] [] Try.func31 rfl Try.ntmps31 rfl rfl rfl rfl (H.refl w) ?_
    (refine WC.seq ?_; intro K hK)
    refine WC.region rfl ?_
    refine WL.want rfl (WL1.give rfl (g_assign rfl (.mk (v := .slice _ _ _) rfl rfl)) ?_)
    refine WL.want rfl (WL1.give rfl (g_assign rfl (.mk (v := .int _ _) rfl rfl)) ?_)
    refine WL.nil ?_
    (refine hK _ _ ?_; clear hK)
    (refine WC.seq ?_; intro K hK)
    (refine WC.seq ?_; intro K hK)
    refine WC.region rfl ?_
    refine WL.want rfl (WL1.give rfl (g_move rfl (.mk (v := .slice _ _ _) rfl rfl)) ?_)
    refine WL.want rfl (WL1.callP rfl rfl rfl (.cons (.mk (v := .slice _ _ _) rfl rfl) .nil) (fun w hw => hval w hw.1) ?_)
    refine WL.want rfl (WL1.give rfl (g_notF rfl (.mk rfl rfl)) ?_)
    refine WL.want rfl (WL1.give rfl (g_move rfl (.mk (v := .bool _) rfl rfl)) ?_)
    refine WL.skipG rfl rfl rfl rfl rfl rfl ?_
    refine WL.skipG rfl rfl rfl rfl rfl rfl ?_
    refine WL.skipG rfl rfl rfl rfl rfl rfl ?_
    refine WL.want rfl (WL1.give rfl (g_pickT rfl (.mk rfl rfl) (.mk (v := .bool _) rfl rfl)) ?_)
    refine WL.want rfl (WL1.give rfl (g_move rfl (.mk (v := .bool _) rfl rfl)) ?_)
    refine WL.skipG rfl rfl rfl rfl rfl rfl ?_
    refine WL.skipG rfl rfl rfl rfl rfl rfl ?_
    refine WL.skipG rfl rfl rfl rfl rfl rfl ?_
    refine WL.want rfl (WL1.give rfl (g_pickT rfl (.mk rfl rfl) (.mk (v := .bool _) rfl rfl)) ?_)
    refine WL.want rfl (WL1.give rfl (g_move rfl (.mk (v := .bool _) rfl rfl)) ?_)
    refine WL.skipG rfl rfl rfl rfl rfl rfl ?_
    refine WL.skipG rfl rfl rfl rfl rfl rfl ?_
    refine WL.skipG rfl rfl rfl rfl rfl rfl ?_
    refine WL.want rfl (WL1.give rfl (g_pickT rfl (.mk rfl rfl) (.mk (v := .bool _) rfl rfl)) ?_)
    refine WL.want rfl (WL1.give rfl (g_move rfl (.mk (v := .bool _) rfl rfl)) ?_)
    refine WL.skipG rfl rfl rfl rfl rfl rfl ?_
    refine WL.skipG rfl rfl rfl rfl rfl rfl ?_
    refine WL.skipG rfl rfl rfl rfl rfl rfl ?_
    refine WL.want rfl (WL1.give rfl (g_pickT rfl (.mk rfl rfl) (.mk (v := .bool _) rfl rfl)) ?_)
    refine WL.nil ?_
    (refine hK _ _ ?_; clear hK)
    refine WC.cond_true (.mk rfl rfl) ?_
    (refine WC.seq ?_; intro K hK)
    refine WC.region rfl ?_
    refine WL.want rfl (WL1.give rfl (g_assign rfl (.mk (v := .slice _ _ _) rfl rfl)) ?_)
    refine WL.want rfl (WL1.give rfl (g_assign rfl (.mk (v := .int _ _) rfl rfl)) ?_)
    refine WL.nil ?_
    (refine hK _ _ ?_; clear hK)
    refine WC.ret ?_
    exact fun w' hw' => ⟨rfl, hw'.1⟩
end Go.Proofs.Ytlkemgefioiffaa
