/- Texts joined: Grp5, Grp6, OpenB, OpenP, OpenQ, Eng16, Grp18, Grp12, Grp14, MatW, Gs, Par7, Par8, MatR, Lin, Gf, Mat1, Mat2, Mat3, Mat4, Gauss, Gi. The parts say what each of them proves. No condition. -/
import Derived.Test.YtnkbnponpknokaaJC2
import Derived.Maps.Own
import Derived.Maps.OwnSet
import Derived.Maps.Range
import Derived.Carry
import Derived.Maps.Views
namespace Go.Proofs.Ytnkbnponpknokaa
set_option maxRecDepth 20000
open Go.RowKit
attribute [local irreducible] Calls
theorem kvs_put {l : List Blk} {k i : Nat} {b : Blk} {v : List Value} (hk : k < l.length) (hi : i = k * 8) (hv : v = b.cells) : spl (kvs l) i v = kvs (l.set k b) := by
  rw [hi, hv]; exact flat_set blk8 (Blk.len b) hk
structure Chg where
  s : Int
  b : Blk
instance : Inhabited Chg := ⟨⟨0, 0⟩⟩
def Chg.cells (x : Chg) : List Value := iv x.s :: x.b.cells
def Chg.ok (x : Chg) : Prop := -9223372036854775808 ≤ x.s ∧ x.s ≤ 9223372036854775807
theorem chg9 {l : List Chg} : ∀ x ∈ l, (Chg.cells x).length = 9 := fun x _ => by rw [Chg.cells, List.length_cons, Blk.len]
theorem Chg.len (x : Chg) : x.cells.length = 9 := by rw [Chg.cells, List.length_cons, Blk.len]
theorem sz9 (x : Chg) : szT Try.prog 70 = some x.cells.length := by rw [Chg.len]; rfl
theorem sz9r (x : Chg) : szT Try.prog 43 = some x.cells.length := by rw [Chg.len]; rfl
theorem Chg.one (x : Chg) : ∀ u ∈ x.cells, u.oneCell' = true := fun u h => by
  rcases List.mem_cons.1 h with rfl | h
  · rfl
  · exact x.b.one u h
abbrev cvs (l : List Chg) : List Value := l.flatMap Chg.cells
theorem chg_row {l : List Chg} {k : Nat} (hk : k < l.length) : ∀ j u, (nth l k).cells[j]? = some u → (cvs l)[k * 9 + j]? = some u := fun j u h => flat_row chg9 hk j u h
theorem Chg.atb (x : Chg) (j : Nat) (u : Value) (h : x.b.cells[j]? = some u) : x.cells[1 + j]? = some u := by rw [Nat.add_comm, Chg.cells, List.getElem?_cons_succ]; exact h
def badC (m : Int) (x : Chg) : Bool := decide (x.s < 0 ∨ m - 3 ≤ x.s)
section
variable {w : World} {b : Nat} {m : Int}
set_option maxHeartbeats 1000000 in
theorem cpred_e (hm : 0 ≤ m ∧ m ≤ 1000) (hc : w.cell? ⟨b, 0, none⟩ = some (iv m)) (x : Chg) (w' : World) (hb : Below w.heap.size w w') : Calls Try.prog 61 #[.agg x.cells.toArray, cellPtr (some ⟨b, 0, none⟩) 0] w' fun e w2 => e = .returned (.bool (badC m x)) ∧ Below w'.heap.size w' w2 := by
  have h1 := kept_cell hb hc
  have g0 : x.cells[0 + (0 + 0)]? = some (iv x.s) := rfl
  have hsub : IntKind.i64.wrap (m - 3) = m - 3 := IntWalk.i64_in _ (by omega)
  by_cases h : x.s < 0
  · rw [show badC m x = true from decide_eq_true (.inl h)]
    refine calls_wc (args := [.agg x.cells.toArray, cellPtr (some ⟨b, 0, none⟩) 0]) [3] [] Try.func61 rfl Try.ntmps61 rfl rfl rfl rfl (H.refl _) ?_
    refine WC.seq fun K hK => ?_
    refine WC.region rfl ?_
    refine WL.want rfl (WL1.box rfl rfl (.mk (v := .agg _) rfl rfl) rfl (fun b2 => ?_))
    refine wG rfl rfl (g_assign rfl (.mk (v := .bool _) rfl rfl)) ?_
    refine WL.nil ?_
    (refine hK _ _ ?_; clear hK)
    refine WC.seq fun K hK => ?_
    refine WC.region rfl ?_
    refine wG rfl rfl (g_fieldAddr (off := 0) rfl (.mk rfl rfl) rfl (fun _ _ => rfl)) ?_
    refine wG rfl rfl (g_load rfl (.mk rfl rfl) rfl (rd_pt (by repeat (first | exact .head _ | apply List.Mem.tail)) g0)) ?_
    refine wG rfl rfl (g_lt rfl (.mk rfl rfl) (.mk rfl rfl) (decide_eq_true (by omega))) ?_
    refine wG rfl rfl (g_move rfl (.mk (v := .bool _) rfl rfl)) ?_
    refine WL.skipG rfl rfl rfl rfl rfl rfl ?_
    refine WL.skipG rfl rfl rfl rfl rfl rfl ?_
    refine WL.skipG rfl rfl rfl rfl rfl rfl ?_
    refine WL.skipG rfl rfl rfl rfl rfl rfl ?_
    refine WL.skipG rfl rfl rfl rfl rfl rfl ?_
    refine wG rfl rfl (g_pickT rfl (.mk rfl rfl) (.mk (v := .bool _) rfl rfl)) ?_
    refine wG rfl rfl (g_assign rfl (.mk (v := .bool _) rfl rfl)) ?_
    refine WL.nil ?_
    (refine hK _ _ ?_; clear hK)
    refine WC.ret ?_
    exact fun w' hw' => ⟨rfl, hw'.1⟩
  · by_cases h2 : m - 3 ≤ x.s
    · rw [show badC m x = true from decide_eq_true (.inr h2)]
      refine calls_wc (args := [.agg x.cells.toArray, cellPtr (some ⟨b, 0, none⟩) 0]) [3] [] Try.func61 rfl Try.ntmps61 rfl rfl rfl rfl (H.refl _) ?_
      refine WC.seq fun K hK => ?_
      refine WC.region rfl ?_
      refine WL.want rfl (WL1.box rfl rfl (.mk (v := .agg _) rfl rfl) rfl (fun b2 => ?_))
      refine wG rfl rfl (g_assign rfl (.mk (v := .bool _) rfl rfl)) ?_
      refine WL.nil ?_
      (refine hK _ _ ?_; clear hK)
      refine WC.seq fun K hK => ?_
      refine WC.region rfl ?_
      refine wG rfl rfl (g_fieldAddr (off := 0) rfl (.mk rfl rfl) rfl (fun _ _ => rfl)) ?_
      refine wG rfl rfl (g_load rfl (.mk rfl rfl) rfl (rd_pt (by repeat (first | exact .head _ | apply List.Mem.tail)) g0)) ?_
      refine wG rfl rfl (g_lt rfl (.mk rfl rfl) (.mk rfl rfl) (decide_eq_false (by omega))) ?_
      refine wG rfl rfl (g_move rfl (.mk (v := .bool _) rfl rfl)) ?_
      refine WL.wantG rfl rfl rfl rfl (WL1.give rfl (g_fieldAddr (off := 0) rfl (.mk rfl rfl) rfl (fun _ _ => rfl)) ?_)
      refine WL.wantG rfl rfl rfl rfl (WL1.give rfl (g_load rfl (.mk rfl rfl) rfl (rd_pt (by repeat (first | exact .head _ | apply List.Mem.tail)) g0)) ?_)
      refine WL.wantG rfl rfl rfl rfl (WL1.give rfl (g_load rfl (.mk rfl rfl) rfl (rd_wb h1)) ?_)
      refine WL.wantG rfl rfl rfl rfl (WL1.give rfl (g_sub rfl (.mk rfl rfl) (.mk rfl rfl) hsub) ?_)
      refine WL.wantG rfl rfl rfl rfl (WL1.give rfl (g_ge rfl (.mk rfl rfl) (.mk rfl rfl) (decide_eq_true (by omega))) ?_)
      refine wG rfl rfl (g_pickF rfl (.mk rfl rfl) (.mk (v := .bool _) rfl rfl)) ?_
      refine wG rfl rfl (g_assign rfl (.mk (v := .bool _) rfl rfl)) ?_
      refine WL.nil ?_
      (refine hK _ _ ?_; clear hK)
      refine WC.ret ?_
      exact fun w' hw' => ⟨rfl, hw'.1⟩
    · rw [show badC m x = false from decide_eq_false (by omega)]
      refine calls_wc (args := [.agg x.cells.toArray, cellPtr (some ⟨b, 0, none⟩) 0]) [3] [] Try.func61 rfl Try.ntmps61 rfl rfl rfl rfl (H.refl _) ?_
      refine WC.seq fun K hK => ?_
      refine WC.region rfl ?_
      refine WL.want rfl (WL1.box rfl rfl (.mk (v := .agg _) rfl rfl) rfl (fun b2 => ?_))
      refine wG rfl rfl (g_assign rfl (.mk (v := .bool _) rfl rfl)) ?_
      refine WL.nil ?_
      (refine hK _ _ ?_; clear hK)
      refine WC.seq fun K hK => ?_
      refine WC.region rfl ?_
      refine wG rfl rfl (g_fieldAddr (off := 0) rfl (.mk rfl rfl) rfl (fun _ _ => rfl)) ?_
      refine wG rfl rfl (g_load rfl (.mk rfl rfl) rfl (rd_pt (by repeat (first | exact .head _ | apply List.Mem.tail)) g0)) ?_
      refine wG rfl rfl (g_lt rfl (.mk rfl rfl) (.mk rfl rfl) (decide_eq_false (by omega))) ?_
      refine wG rfl rfl (g_move rfl (.mk (v := .bool _) rfl rfl)) ?_
      refine WL.wantG rfl rfl rfl rfl (WL1.give rfl (g_fieldAddr (off := 0) rfl (.mk rfl rfl) rfl (fun _ _ => rfl)) ?_)
      refine WL.wantG rfl rfl rfl rfl (WL1.give rfl (g_load rfl (.mk rfl rfl) rfl (rd_pt (by repeat (first | exact .head _ | apply List.Mem.tail)) g0)) ?_)
      refine WL.wantG rfl rfl rfl rfl (WL1.give rfl (g_load rfl (.mk rfl rfl) rfl (rd_wb h1)) ?_)
      refine WL.wantG rfl rfl rfl rfl (WL1.give rfl (g_sub rfl (.mk rfl rfl) (.mk rfl rfl) hsub) ?_)
      refine WL.wantG rfl rfl rfl rfl (WL1.give rfl (g_ge rfl (.mk rfl rfl) (.mk rfl rfl) (decide_eq_false (by omega))) ?_)
      refine wG rfl rfl (g_pickF rfl (.mk rfl rfl) (.mk (v := .bool _) rfl rfl)) ?_
      refine wG rfl rfl (g_assign rfl (.mk (v := .bool _) rfl rfl)) ?_
      refine WL.nil ?_
      (refine hK _ _ ?_; clear hK)
      refine WC.ret ?_
      exact fun w' hw' => ⟨rfl, hw'.1⟩
end
set_option maxHeartbeats 1000000 in
theorem cindex_e (v : Value) (l : List Chg) (b : Nat) (m : Int) (w : World) (hm0 : 0 ≤ m ∧ m ≤ 1000) (hv : Sl w 9 v l.length (cvs l)) (hc : w.cell? ⟨b, 0, none⟩ = some (iv m)) :
    Calls Try.prog 76 #[v, .func (.func 61) #[] #[cellPtr (some ⟨b, 0, none⟩) 0]] w fun e w' => e = .returned (iv (gfz (gfnd (fun k => badC m (nth l k)) l.length))) ∧ Below w.heap.size w w' := by
  obtain ⟨A, cc, rfl, hcc, hm, hs⟩ := hv.open_
  unfold maxLen at hm
  refine calls_wc (args := [.slice A l.length cc, .func (.func 61) #[] #[cellPtr (some ⟨b, 0, none⟩) 0]]) [4] [] Try.func76 rfl Try.ntmps76 rfl rfl rfl rfl (H.refl _) ?_
  refine WC.seq fun K hK => ?_
  refine WC.region rfl ?_
  refine wG rfl rfl (g_assign rfl (.mk (v := .int _ _) rfl rfl)) ?_
  refine WL.nil ?_
  (refine hK _ _ ?_; clear hK)
  refine WC.seq fun K hK => ?_
  refine WC.seq fun K hK => ?_
  refine WC.region rfl ?_
  refine wG rfl rfl (g_move rfl (.mk (v := .slice _ _ _) rfl rfl)) ?_
  refine wG rfl rfl (g_len rfl (.mk rfl rfl) rfl) ?_
  refine wG rfl rfl (g_move rfl (.mk (v := .int _ _) rfl rfl)) ?_
  refine WL.nil ?_
  (refine hK _ _ ?_; clear hK)
  refine WC.block ?_
  refine WC.loopF (fun k : Nat => [(8, iv k), (7, iv l.length), (0, .slice A l.length cc), (1, .func (.func 61) #[] #[cellPtr (some ⟨b, 0, none⟩) 0])]) (fun _ => []) (fun k => k ≤ l.length ∧ ∀ j, j < k → badC m (nth l j) = false) (fun k => l.length - k) 0 (by repeat (first | exact trivial | refine ⟨rfl, ?_⟩)) (Imp.nil _) ⟨by omega, fun j hj => absurd hj (by omega)⟩ ?_
  rintro k U ⟨hk, hq⟩
  by_cases hlt : k < l.length
  · have hgd := chg_row (l := l) (k := k) hlt
    have hcl := fun w' hb => cpred_e (w := w) hm0 hc (nth l k) w' hb
    cases hz : badC m (nth l k) with
    | false =>
      rw [hz] at hcl
      refine WC.seq fun K hK => ?_
      refine WC.region rfl ?_
      refine wG rfl rfl (g_lt rfl (.mk rfl rfl) (.mk rfl rfl) (decide_eq_true (by omega))) ?_
      refine WL.nil ?_
      (refine hK _ _ ?_; clear hK)
      refine WC.seq fun K hK => ?_
      refine WC.cond_true (.mk rfl rfl) ?_
      refine WC.skip ?_
      (refine hK _ _ ?_; clear hK)
      refine WC.seq fun K hK => ?_
      refine WC.block ?_
      refine WC.seq fun K hK => ?_
      refine WC.region rfl ?_
      refine wG rfl rfl (g_move rfl (.mk (v := .int _ _) rfl rfl)) ?_
      refine wG rfl rfl (g_assign rfl (.mk (v := .int _ _) rfl rfl)) ?_
      refine WL.nil ?_
      (refine hK _ _ ?_; clear hK)
      refine WC.seq fun K hK => ?_
      refine WC.region rfl ?_
      refine wG rfl rfl (g_move rfl (.mk (v := .func _ _ _) rfl rfl)) ?_
      refine wG rfl rfl (g_move rfl (.mk (v := .slice _ _ _) rfl rfl)) ?_
      refine wG rfl rfl (g_move rfl (.mk (v := .int _ _) rfl rfl)) ?_
      refine wG rfl rfl (g_indexAddr (sz := 9) rfl (.mk rfl rfl) (.mk rfl rfl) rfl rfl rfl (by omega) (fun _ _ => sl_some hs (by omega))) ?_
      refine wG rfl rfl (g_loadA rfl (.mk rfl rfl) rfl (sz9 _) (rdr_sl hs (by omega) hgd)) ?_
      refine WL.want rfl (WL1.callVP rfl rfl (.mk rfl rfl) (by first | assumption | rfl) (.cons (.mk (v := .agg _) rfl rfl) .nil) (fun w hw => hcl w hw.1) ?_)
      refine WL.nil ?_
      (refine hK _ _ ?_; clear hK)
      refine WC.cond_false (.mk rfl rfl) ?_
      refine WC.skip ?_
      (refine hK _ _ ?_; clear hK)
      refine WC.region rfl ?_
      refine wG rfl rfl (g_add rfl (.mk rfl rfl) (.mk rfl rfl) (IntWalk.i64_in _ (by omega))) ?_
      refine wG rfl rfl (g_move rfl (.mk (v := .int _ _) rfl rfl)) ?_
      refine WL.nil ?_
      refine ⟨k + 1, (by repeat (first | exact trivial | refine ⟨rfl, ?_⟩)), .refl _, ⟨by omega, fun j hj => ?_⟩, by omega⟩
      by_cases e : j = k
      · rw [e]; exact hz
      · exact hq j (by omega)
    | true =>
      rw [hz] at hcl
      refine WC.seq fun K hK => ?_
      refine WC.region rfl ?_
      refine wG rfl rfl (g_lt rfl (.mk rfl rfl) (.mk rfl rfl) (decide_eq_true (by omega))) ?_
      refine WL.nil ?_
      (refine hK _ _ ?_; clear hK)
      refine WC.seq fun K hK => ?_
      refine WC.cond_true (.mk rfl rfl) ?_
      refine WC.skip ?_
      (refine hK _ _ ?_; clear hK)
      refine WC.seq fun K hK => ?_
      refine WC.block ?_
      refine WC.seq fun K hK => ?_
      refine WC.region rfl ?_
      refine wG rfl rfl (g_move rfl (.mk (v := .int _ _) rfl rfl)) ?_
      refine wG rfl rfl (g_assign rfl (.mk (v := .int _ _) rfl rfl)) ?_
      refine WL.nil ?_
      (refine hK _ _ ?_; clear hK)
      refine WC.seq fun K hK => ?_
      refine WC.region rfl ?_
      refine wG rfl rfl (g_move rfl (.mk (v := .func _ _ _) rfl rfl)) ?_
      refine wG rfl rfl (g_move rfl (.mk (v := .slice _ _ _) rfl rfl)) ?_
      refine wG rfl rfl (g_move rfl (.mk (v := .int _ _) rfl rfl)) ?_
      refine wG rfl rfl (g_indexAddr (sz := 9) rfl (.mk rfl rfl) (.mk rfl rfl) rfl rfl rfl (by omega) (fun _ _ => sl_some hs (by omega))) ?_
      refine wG rfl rfl (g_loadA rfl (.mk rfl rfl) rfl (sz9 _) (rdr_sl hs (by omega) hgd)) ?_
      refine WL.want rfl (WL1.callVP rfl rfl (.mk rfl rfl) (by first | assumption | rfl) (.cons (.mk (v := .agg _) rfl rfl) .nil) (fun w hw => hcl w hw.1) ?_)
      refine WL.nil ?_
      (refine hK _ _ ?_; clear hK)
      refine WC.cond_true (.mk rfl rfl) ?_
      refine WC.seq fun K hK => ?_
      refine WC.region rfl ?_
      refine wG rfl rfl (g_move rfl (.mk (v := .int _ _) rfl rfl)) ?_
      refine wG rfl rfl (g_assign rfl (.mk (v := .int _ _) rfl rfl)) ?_
      refine WL.nil ?_
      (refine hK _ _ ?_; clear hK)
      refine WC.ret ?_
      exact fun w' hw' => ⟨by rw [gfnd_eq (p := fun k => badC m (nth l k)) hlt hz hq]; rfl, hw'.1⟩
  · obtain rfl : k = l.length := by omega
    refine WC.seq fun K hK => ?_
    refine WC.region rfl ?_
    refine wG rfl rfl (g_lt rfl (.mk rfl rfl) (.mk rfl rfl) (decide_eq_false (by omega))) ?_
    refine WL.nil ?_
    (refine hK _ _ ?_; clear hK)
    refine WC.seq fun K hK => ?_
    refine WC.cond_false (.mk rfl rfl) ?_
    refine WC.exit ?_
    (clear hK; refine hK _ _ ?_; clear hK)
    refine WC.seq fun K hK => ?_
    refine WC.region rfl ?_
    refine wG rfl rfl (g_assign rfl (.mk (v := .int _ _) rfl rfl)) ?_
    refine WL.nil ?_
    (refine hK _ _ ?_; clear hK)
    refine WC.ret ?_
    exact fun w' hw' => ⟨by rw [gfnd_all hq]; rfl, hw'.1⟩
set_option maxHeartbeats 1000000 in
theorem ccontains_e (v : Value) (l : List Chg) (b : Nat) (m : Int) (w : World) (hm0 : 0 ≤ m ∧ m ≤ 1000) (hv : Sl w 9 v l.length (cvs l)) (hc : w.cell? ⟨b, 0, none⟩ = some (iv m)) :
    Calls Try.prog 60 #[v, .func (.func 61) #[] #[cellPtr (some ⟨b, 0, none⟩) 0]] w fun e w' => e = .returned (.bool (gfnd (fun k => badC m (nth l k)) l.length).isSome) ∧ Below w.heap.size w w' := by
  have hix := fun w' (hb : Below w.heap.size w w') => cindex_e v l b m w' hm0 (hv.below hb) (kept_cell hb hc)
  obtain ⟨o, ho⟩ : ∃ o, o = gfnd (fun k => badC m (nth l k)) l.length := ⟨_, rfl⟩
  rw [← ho] at hix ⊢
  have hb := gfz_ge o
  refine calls_wc (args := [v, .func (.func 61) #[] #[cellPtr (some ⟨b, 0, none⟩) 0]]) [4] [] Try.func60 rfl Try.ntmps60 rfl rfl rfl rfl (H.refl _) ?_
  refine WC.seq fun K hK => ?_
  refine WC.region rfl ?_
  refine wG rfl rfl (g_assign rfl (.mk (v := .bool _) rfl rfl)) ?_
  refine WL.nil ?_
  (refine hK _ _ ?_; clear hK)
  refine WC.seq fun K hK => ?_
  refine WC.region rfl ?_
  refine wG rfl rfl (g_move rfl (.mk rfl (by conv => lhs; whnf))) ?_
  refine wG rfl rfl (g_move rfl (.mk (v := .func _ _ _) rfl rfl)) ?_
  refine WL.want rfl (WL1.callP rfl rfl rfl (.cons (.mk rfl (by conv => lhs; whnf)) (.cons (.mk (v := .func _ _ _) rfl rfl) .nil)) (fun w hw => hix w hw.1) ?_)
  refine wG rfl rfl (g_ge rfl (.mk rfl rfl) (.mk rfl rfl) hb) ?_
  refine wG rfl rfl (g_assign rfl (.mk (v := .bool _) rfl rfl)) ?_
  refine WL.nil ?_
  (refine hK _ _ ?_; clear hK)
  refine WC.ret ?_
  exact fun w' hw' => ⟨rfl, hw'.1⟩
def okC (m : Int) (l : List Chg) : Bool := !(gfnd (fun k => badC m (nth l k)) l.length).isSome
set_option maxHeartbeats 1000000 in
theorem changes_e (v : Value) (l : List Chg) (m : Int) (w : World) (hm0 : 0 ≤ m ∧ m ≤ 1000) (hv : Sl w 9 v l.length (cvs l)) :
    Calls Try.prog 35 #[iv m, v] w fun e w' => e = .returned (.bool (okC m l)) ∧ Below w.heap.size w w' := by
  obtain ⟨A, cc, rfl, hcc, hm, hs⟩ := hv.open_
  refine calls_wc (args := [iv m, .slice A l.length cc]) [4] [] Try.func35 rfl Try.ntmps35 rfl rfl rfl rfl (H.refl _) ?_
  refine WC.seq fun K hK => ?_
  refine WC.region rfl ?_
  refine WL.want rfl (WL1.box rfl rfl (.mk (v := .int _ _) rfl rfl) rfl (fun b2 => ?_))
  refine wG rfl rfl (g_assign rfl (.mk (v := .bool _) rfl rfl)) ?_
  refine WL.nil ?_
  (refine hK _ _ ?_; clear hK)
  refine WC.seq fun K hK => ?_
  refine WC.region rfl ?_
  refine wG rfl rfl (g_move rfl (.mk (v := .slice _ _ _) rfl rfl)) ?_
  refine wG rfl rfl (g_makeFunc rfl (.cons (.mk (v := cellPtr _ _) rfl rfl) .nil)) ?_
  refine WL.want rfl (WL1.callP rfl rfl rfl (.cons (.mk (v := .slice _ _ _) rfl rfl) (.cons (.mk (v := .func _ _ _) rfl rfl) .nil)) (fun w hw => ccontains_e _ l b2 m w hm0 (hs.below hw.1) (cell_pt hw (by repeat (first | exact .head _ | apply List.Mem.tail)) rfl)) ?_)
  refine wG rfl rfl (g_not rfl (.mk rfl rfl)) ?_
  refine wG rfl rfl (g_assign rfl (.mk (v := .bool _) rfl rfl)) ?_
  refine WL.nil ?_
  (refine hK _ _ ?_; clear hK)
  refine WC.ret ?_
  exact fun w' hw' => ⟨rfl, hw'.1⟩
theorem okC_each {m : Int} {l : List Chg} (h : okC m l = true) {k : Nat} (hk : k < l.length) : 0 ≤ (nth l k).s ∧ (nth l k).s < m - 3 := by
  have : gfnd (fun k => badC m (nth l k)) l.length = none := by
    unfold okC at h
    cases e : gfnd (fun k => badC m (nth l k)) l.length with
    | none => rfl
    | some j => rw [e] at h; cases h
  have := gfnd_none this k hk
  have := of_decide_eq_false this
  omega
set_option maxHeartbeats 1000000 in
theorem complete_n (v : Value) (ds : List Blk) (w : World) (hv : Sl w 8 v ds.length (kvs ds)) (h1 : 1 ≤ ds.length) (h2 : ds.length ≤ 13) : Calls Try.prog 37 #[v] w fun e w' => ∃ v' M, e = .returned v' ∧ H w M w' ∧ ∃ A c, v' = .slice A (ds.length + 3) c ∧ M = [vec A (ds.length + 3) c 38 8 (kvs (ds ++ enc ds))] := by
  obtain ⟨A, c, rfl, hc, hm, hs⟩ := hv.open_
  refine calls_wc (args := [.slice A ds.length c]) [2] [] Try.func37 rfl Try.ntmps37 rfl rfl rfl rfl (H.refl _) ?_
  refine WC.seq fun K hK => ?_
  refine WC.region rfl ?_
  refine wG rfl rfl (g_assign rfl (.mk (v := .slice _ _ _) rfl rfl)) ?_
  refine WL.nil ?_
  (refine hK _ _ ?_; clear hK)
  refine WC.seq fun K hK => ?_
  refine WC.region rfl ?_
  refine wG rfl rfl (g_move rfl (.mk (v := .slice _ _ _) rfl rfl)) ?_
  (refine WL.want rfl (WL1.callN rfl rfl rfl (.cons (.mk (v := .slice _ _ _) rfl rfl) .nil) (fun w hw => encode_n _ ds w (hs.below hw.1) h1 h2) ?_); rintro _ _ ⟨bp, rfl, rfl⟩)
  refine wG rfl rfl (g_move rfl (.mk (v := .tuple _) rfl rfl)) ?_
  refine wG rfl rfl (g_extract rfl (.mk rfl rfl) rfl) ?_
  refine wG rfl rfl (g_extract rfl (.mk rfl rfl) rfl) ?_
  refine wG rfl rfl (g_assign rfl (.mk (v := .slice _ _ _) rfl rfl)) ?_
  refine wG rfl rfl (g_assign rfl (.mk (v := .int _ _) rfl rfl)) ?_
  refine WL.nil ?_
  (refine hK _ _ ?_; clear hK)
  refine WC.seq fun K hK => ?_
  refine WC.region rfl ?_
  refine wG rfl rfl (g_move rfl (.mk (v := .slice _ _ _) rfl rfl)) ?_
  (refine WL.want rfl (WL1.callN rfl rfl rfl (.cons (.mk (v := .slice _ _ _) rfl rfl) .nil) (fun w hw => clone_n _ ds w (hs.below hw.1) h1 (by omega)) ?_); rintro _ _ ⟨A2, c2, rfl, rfl⟩)
  refine wG rfl rfl (g_move rfl (.mk (v := .slice _ _ _) rfl rfl)) ?_
  refine WL.want rfl (WL1.append elK rfl rfl (.mk rfl rfl) (.mk rfl rfl) (.head) (fun w hw => Sl.of_vec hw (.tail _ (.head _))) (kvs_one _) (by unfold maxLen; omega) (by omega) (fun A13 c13 => ?_))
  refine wG rfl rfl (g_assign rfl (.mk (v := .slice _ _ _) rfl rfl)) ?_
  refine WL.nil ?_
  (refine hK _ _ ?_; clear hK)
  refine WC.ret ?_
  exact fun w' hw' => ⟨_, _, rfl, hw'.sub (.cons_cons _ (List.nil_sublist _)), A13, c13, rfl, by rw [kvs_app]⟩
def datP (ds : List Blk) (l : List Chg) : Nat → List Blk
  | 0 => ds
  | i + 1 => (datP ds l i).set (nth l i).s.toNat (nth l i).b
theorem datP_len (ds : List Blk) (l : List Chg) : ∀ i, (datP ds l i).length = ds.length
  | 0 => rfl
  | i + 1 => by rw [datP, List.length_set, datP_len ds l i]
def apL (ps : List Blk) (l : List Chg) : List Blk := datP (ps.take (ps.length - 3)) l l.length ++ enc (datP (ps.take (ps.length - 3)) l l.length)
def difP (qs ps : List Blk) (i : Nat) : Bool := decide (nth qs i ≠ nth ps i)
set_option maxHeartbeats 4000000 in
theorem gapply_n (vp vl : Value) (ps : List Blk) (l : List Chg) (n : Nat) (w : World) (hp : Sl w 8 vp ps.length (kvs ps)) (hl : Sl w 9 vl l.length (cvs l)) (hn : ps.length = n + 3) (h1 : 1 ≤ n) (h2 : n ≤ 13) (hll : l.length ≤ 1000000) (hg : isGroup ps = true) (ho : okC ps.length l = true) :
    Calls Try.prog 12 #[vp, vl] w fun e w' => ∃ v' M, e = .returned v' ∧ H w M w' ∧ ∃ A c F fc, v' = .tuple #[.slice A ps.length c, .slice F (numL (difP (apL ps l) ps) ps.length).length fc, iv 0] ∧ M = [vec A ps.length c 38 8 (kvs (apL ps l)), vec F (numL (difP (apL ps l) ps) ps.length).length fc 3 1 (ldv (numL (difP (apL ps l) ps) ps.length))] := by
  have hck := fun w' hb => check_e vp ps w' (hp.below (w' := w') hb) (by omega)
  have hch := fun w' hb => changes_e vl l ps.length w' (by omega) (hl.below (w' := w') hb)
  rw [hg] at hck
  rw [ho] at hch
  have hoe := fun k (hk : k < l.length) => okC_each ho hk
  obtain ⟨A, c, rfl, hcc, hm, hs⟩ := hp.open_
  obtain ⟨B, d, rfl, hcd, hmd, hsb⟩ := hl.open_
  have hsub : IntKind.i64.wrap ((ps.length : Int) - 3) = (n : Int) := by rw [IntWalk.i64_in _ (by omega)]; omega
  have htl : (ps.take n).length = n := by rw [List.length_take]; omega
  have htk : ∀ w', Below w.heap.size w w' → Sl w' 8 (.slice (subA A c 0 8) (n - 0) (c - 0)) n (kvs (ps.take n)) := fun w' hb => by
    have := Sl.blks (l := 0) (h := n) (hs.below hb) rfl (by omega) (by omega)
    rwa [List.drop_zero, Nat.sub_zero, htl] at this
  have hcl : ∀ (v : Value) (w' : World), Sl w' 8 v n (kvs (ps.take n)) → Calls Try.prog 36 #[v] w' fun e w2 => ∃ v' M, e = .returned v' ∧ H w' M w2 ∧ ∃ A c, v' = .slice A n c ∧ M = [vec A n c 38 8 (kvs (datP (ps.take n) l 0))] := fun v w' h => by
    have := clone_n v (ps.take n) w' (by rw [htl]; exact h) (by omega) (by omega)
    rwa [htl] at this
  have hap : apL ps l = datP (ps.take n) l l.length ++ enc (datP (ps.take n) l l.length) := by unfold apL; rw [show ps.length - 3 = n from by omega]
  refine calls_wc (args := [.slice A ps.length c, .slice B l.length d]) [4, 5, 6] [] Try.func12 rfl Try.ntmps12 rfl rfl rfl rfl (H.refl _) ?_
  refine WC.seq fun K hK => ?_
  refine WC.region rfl ?_
  refine wG rfl rfl (g_assign rfl (.mk (v := .slice _ _ _) rfl rfl)) ?_
  refine wG rfl rfl (g_assign rfl (.mk (v := .slice _ _ _) rfl rfl)) ?_
  refine wG rfl rfl (g_assign rfl (.mk (v := .int _ _) rfl rfl)) ?_
  refine WL.nil ?_
  (refine hK _ _ ?_; clear hK)
  refine WC.seq fun K hK => ?_
  refine WC.region rfl ?_
  refine wG rfl rfl (g_move rfl (.mk (v := .slice _ _ _) rfl rfl)) ?_
  refine wG rfl rfl (g_len rfl (.mk rfl rfl) rfl) ?_
  refine wG rfl rfl (g_assign rfl (.mk (v := .int _ _) rfl rfl)) ?_
  refine WL.nil ?_
  (refine hK _ _ ?_; clear hK)
  refine WC.seq fun K hK => ?_
  refine WC.seq fun K hK => ?_
  refine WC.region rfl ?_
  refine wG rfl rfl (g_move rfl (.mk (v := .slice _ _ _) rfl rfl)) ?_
  refine WL.want rfl (WL1.callP rfl rfl rfl (.cons (.mk (v := .slice _ _ _) rfl rfl) .nil) (fun w hw => hck w hw.1) ?_)
  refine wG rfl rfl (g_notT rfl (.mk rfl rfl)) ?_
  refine wG rfl rfl (g_move rfl (.mk (v := .bool _) rfl rfl)) ?_
  refine WL.wantG rfl rfl rfl rfl (WL1.give rfl (g_move rfl (.mk (v := .int _ _) rfl rfl)) ?_)
  refine WL.wantG rfl rfl rfl rfl (WL1.give rfl (g_move rfl (.mk (v := .slice _ _ _) rfl rfl)) ?_)
  refine WL.wantG rfl rfl rfl rfl (WL1.callP rfl rfl rfl (.cons (.mk (v := .int _ _) rfl rfl) (.cons (.mk (v := .slice _ _ _) rfl rfl) .nil)) (fun w hw => hch w hw.1) ?_)
  refine WL.wantG rfl rfl rfl rfl (WL1.give rfl (g_notT rfl (.mk rfl rfl)) ?_)
  refine wG rfl rfl (g_pickF rfl (.mk rfl rfl) (.mk (v := .bool _) rfl rfl)) ?_
  refine WL.nil ?_
  (refine hK _ _ ?_; clear hK)
  refine WC.cond_false (.mk rfl rfl) ?_
  refine WC.skip ?_
  (refine hK _ _ ?_; clear hK)
  refine WC.seq fun K hK => ?_
  refine WC.region rfl ?_
  refine wG rfl rfl (g_move rfl (.mk (v := .slice _ _ _) rfl rfl)) ?_
  refine wG rfl rfl (g_move rfl (.mk (v := .int _ _) rfl rfl)) ?_
  refine wG rfl rfl (g_sub rfl (.mk rfl rfl) (.mk rfl rfl) hsub) ?_
  refine wG rfl rfl (g_slice (sz := 8) (kl := .i64) (p := 0) rfl (.mk rfl rfl) rfl rfl rfl ⟨(.mk rfl rfl), rfl⟩ (by omega) (by omega)) ?_
  (refine WL.want rfl (WL1.callN rfl rfl rfl (.cons (.mk (v := .slice _ _ _) rfl rfl) .nil) (fun w hw => hcl _ w (htk w hw.1)) ?_); rintro _ _ ⟨Ac, cc2, rfl, rfl⟩)
  refine wG rfl rfl (g_assign rfl (.mk (v := .slice _ _ _) rfl rfl)) ?_
  refine WL.nil ?_
  (refine hK _ _ ?_; clear hK)
  refine WC.seq fun K hK => ?_
  refine WC.seq fun K hK => ?_
  refine WC.region rfl ?_
  refine wG rfl rfl (g_move rfl (.mk (v := .slice _ _ _) rfl rfl)) ?_
  refine wG rfl rfl (g_len rfl (.mk rfl rfl) rfl) ?_
  refine wG rfl rfl (g_move rfl (.mk (v := .int _ _) rfl rfl)) ?_
  refine WL.nil ?_
  (refine hK _ _ ?_; clear hK)
  refine WC.block ?_
  refine WC.loopF (fun i : Nat => [(32, iv i), (31, iv l.length), (30, .slice B l.length d), (8, .slice Ac n cc2), (0, .slice A ps.length c)]) (fun i => [vec Ac n cc2 38 8 (kvs (datP (ps.take n) l i))]) (fun i => i ≤ l.length) (fun i => l.length - i) 0 (by repeat (first | exact trivial | refine ⟨rfl, ?_⟩)) (.refl _) (by omega) ?_
  intro i U hi
  have hdl := datP_len (ps.take n) l i
  rw [htl] at hdl
  have hkl : (kvs (datP (ps.take n) l i)).length = n * 8 := by rw [kvs_len, hdl]
  by_cases hlt : i < l.length
  · have hgd := chg_row (l := l) (k := i) hlt
    obtain ⟨q1, q2⟩ := hoe i hlt
    have hdn : datP (ps.take n) l (i + 1) = (datP (ps.take n) l i).set (nth l i).s.toNat (nth l i).b := rfl
    obtain ⟨x, hx⟩ : ∃ x, x = nth l i := ⟨_, rfl⟩
    rw [← hx] at hgd q1 q2 hdn
    obtain ⟨z, hz⟩ : ∃ z : Nat, x.s = z := ⟨x.s.toNat, by omega⟩
    have g0 : x.cells[0 + (0 + 0)]? = some (iv z) := by rw [← hz]; rfl
    have gb : ∀ j u, x.b.cells[j]? = some u → x.cells[0 + (0 + 1 + j)]? = some u := fun j u h => by rw [show 0 + (0 + 1 + j) = 1 + j from by omega]; exact x.atb j u h
    have hz2 : x.s.toNat = z := by omega
    rw [hz2] at hdn
    have hsp : ∀ i0 v0, i0 = z * 8 → v0 = x.b.cells → spl (kvs (datP (ps.take n) l i)) i0 v0 = kvs (datP (ps.take n) l (i + 1)) := fun i0 v0 h h' => (kvs_put (by omega) h h').trans (congrArg kvs hdn.symm)
    have hzn : z < n := by omega
    clear hx hdn
    refine WC.seq fun K hK => ?_
    refine WC.region rfl ?_
    refine wG rfl rfl (g_lt rfl (.mk rfl rfl) (.mk rfl rfl) (decide_eq_true (by omega))) ?_
    refine WL.nil ?_
    (refine hK _ _ ?_; clear hK)
    refine WC.seq fun K hK => ?_
    refine WC.cond_true (.mk rfl rfl) ?_
    refine WC.skip ?_
    (refine hK _ _ ?_; clear hK)
    refine WC.seq fun K hK => ?_
    refine WC.block ?_
    refine WC.seq fun K hK => ?_
    refine WC.region rfl ?_
    refine wG rfl rfl (g_indexAddr (sz := 9) rfl (.mk rfl rfl) (.mk rfl rfl) rfl rfl rfl (by omega) (fun _ _ => sl_some hsb (by omega))) ?_
    refine wG rfl rfl (g_loadA rfl (.mk rfl rfl) rfl (sz9 _) (rdr_sl hsb (by omega) hgd)) ?_
    refine WL.want rfl (WL1.alloc rfl rfl rfl rfl (fun b10 => ?_))
    refine WL.want rfl (WL1.storeAll rfl rfl (.mk rfl rfl) (.mk rfl rfl) (sz9 _) (Chg.one _) (by rw [Chg.len]; rfl) .head ?_)
    refine WL.nil ?_
    (refine hK _ _ ?_; clear hK)
    refine WC.region rfl ?_
    refine wG rfl rfl (g_move rfl (.mk (v := .slice _ _ _) rfl rfl)) ?_
    refine wG rfl rfl (g_fieldAddr (off := 0) rfl (.mk rfl rfl) rfl (fun _ _ => rfl)) ?_
    refine wG rfl rfl (g_load rfl (.mk rfl rfl) rfl (rd_pt (by repeat (first | exact .head _ | apply List.Mem.tail)) g0)) ?_
    refine wG rfl rfl (g_fieldAddr (off := 1) rfl (.mk rfl rfl) rfl (fun _ _ => rfl)) ?_
    refine wG rfl rfl (g_loadA rfl (.mk rfl rfl) rfl (sz8 _) (rdr_pt (cs := x.b.cells) (by repeat (first | exact .head _ | apply List.Mem.tail)) gb)) ?_
    refine wG rfl rfl (g_indexAddr (sz := 8) rfl (.mk rfl rfl) (.mk rfl rfl) rfl rfl rfl (by omega) (fun w hw => vec_some hw (.tail _ (.head _)) (by omega))) ?_
    refine WL.want rfl (WL1.storeVA rfl rfl (.mk rfl rfl) (.mk rfl rfl) (sz8 _) (Blk.one _) (by first | decide | omega | exact Nat.le_of_ble_eq_true rfl | (simp; done) | (simp; omega) | (rw [Blk.len]; omega)) (by first | omega | (rw [Blk.len]; omega) | (simp; done) | (simp; omega)) (.tail (.head)) ?_)
    refine WL.nil ?_
    (refine hK _ _ ?_; clear hK)
    refine WC.region rfl ?_
    refine wG rfl rfl (g_add rfl (.mk rfl rfl) (.mk rfl rfl) (IntWalk.i64_in _ (by omega))) ?_
    refine wG rfl rfl (g_move rfl (.mk (v := .int _ _) rfl rfl)) ?_
    refine WL.nil ?_
    refine ⟨i + 1, (by repeat (first | exact trivial | refine ⟨rfl, ?_⟩)), ?_, by omega, by omega⟩
    rw [hsp]
    · exact Imp.pick (by repeat (first | exact .head | apply Take.tail)) (Imp.nil _)
    · omega
    · rfl
  · obtain rfl : i = l.length := by omega
    obtain ⟨D, hD⟩ : ∃ D, D = datP (ps.take n) l l.length := ⟨_, rfl⟩
    rw [← hD] at hap hdl ⊢
    obtain ⟨qs, hqs⟩ : ∃ qs, qs = D ++ enc D := ⟨_, rfl⟩
    have hcm : ∀ (v : Value) (w' : World), Sl w' 8 v n (kvs D) → Calls Try.prog 37 #[v] w' fun e w2 => ∃ v' M, e = .returned v' ∧ H w' M w2 ∧ ∃ A c, v' = .slice A ps.length c ∧ M = [vec A ps.length c 38 8 (kvs qs)] := fun v w' h => by
      have := complete_n v D w' (by rw [hdl]; exact h) (by omega) (by omega)
      rwa [hdl, ← hqs, ← hn] at this
    rw [← hqs] at hap
    rw [hap]
    have hql : qs.length = ps.length := by
      have : (enc D).length = 3 := by simp [enc]
      rw [hqs, List.length_append, this, hdl, hn]
    clear hqs hkl hcl hch hck
    refine WC.seq fun K hK => ?_
    refine WC.region rfl ?_
    refine wG rfl rfl (g_lt rfl (.mk rfl rfl) (.mk rfl rfl) (decide_eq_false (by omega))) ?_
    refine WL.nil ?_
    (refine hK _ _ ?_; clear hK)
    refine WC.seq fun K hK => ?_
    refine WC.cond_false (.mk rfl rfl) ?_
    refine WC.exit ?_
    (clear hK; refine hK _ _ ?_; clear hK)
    refine WC.seq fun K hK => ?_
    refine WC.region rfl ?_
    refine wG rfl rfl (g_move rfl (.mk (v := .slice _ _ _) rfl rfl)) ?_
    (refine WL.want rfl (WL1.callN rfl rfl rfl (.cons (.mk (v := .slice _ _ _) rfl rfl) .nil) (fun w hw => hcm _ w (Sl.of_vec hw (by repeat (first | exact .head _ | apply List.Mem.tail)))) ?_); rintro _ _ ⟨Aq, cq, rfl, rfl⟩)
    refine wG rfl rfl (g_assign rfl (.mk (v := .slice _ _ _) rfl rfl)) ?_
    refine WL.nil ?_
    (refine hK _ _ ?_; clear hK)
    refine WC.seq fun K hK => ?_
    refine WC.region rfl ?_
    refine wG rfl rfl (g_assign rfl (.mk (v := .slice _ _ _) rfl rfl)) ?_
    refine WL.nil ?_
    (refine hK _ _ ?_; clear hK)
    refine WC.seq fun K hK => ?_
    refine WC.seq fun K hK => ?_
    refine WC.region rfl ?_
    refine wG rfl rfl (g_move rfl (.mk (v := .slice _ _ _) rfl rfl)) ?_
    refine wG rfl rfl (g_len rfl (.mk rfl rfl) rfl) ?_
    refine wG rfl rfl (g_move rfl (.mk (v := .int _ _) rfl rfl)) ?_
    refine WL.nil ?_
    (refine hK _ _ ?_; clear hK)
    refine WC.block ?_
    refine WC.nilvec 3 1 ?_
    refine WC.loopF3 (fun (j : Nat) (F : Option Addr) (fc : Nat) => [(47, iv j), (46, iv ps.length), (11, .slice Aq ps.length cq), (12, .slice F (numL (difP qs ps) j).length fc), (0, .slice A ps.length c)]) (fun j F fc => [vec F (numL (difP qs ps) j).length fc 3 1 (ldv (numL (difP qs ps) j)), vec Aq ps.length cq 38 8 (kvs qs)]) (fun j _ _ => j ≤ ps.length) (fun j _ _ => ps.length - j) 0 none 0 (by repeat (first | exact trivial | refine ⟨rfl, ?_⟩)) (Imp.pick (A := vec none 0 0 3 1 []) (by repeat (first | exact .head | apply Take.tail)) (Imp.pick (by repeat (first | exact .head | apply Take.tail)) (Imp.nil _))) (by omega) ?_
    intro j F fc V hj
    have hle := numL_le (difP qs ps) j
    obtain ⟨g, hgg⟩ : ∃ g, g = numL (difP qs ps) j := ⟨_, rfl⟩
    rw [← hgg] at hle ⊢
    by_cases hlt2 : j < ps.length
    · have ga : ∀ t u, (nth qs j).cells[t]? = some u → (kvs qs)[j * 8 + t]? = some u := fun t u h => flat_row blk8 (by omega) t u h
      have gb : ∀ t u, (nth ps j).cells[t]? = some u → (kvs ps)[j * 8 + t]? = some u := fun t u h => flat_row blk8 (by omega) t u h
      by_cases hne : nth qs j = nth ps j
      · have E := blk_eq hne
        have hst : numL (difP qs ps) (j + 1) = g := by rw [numL, show difP qs ps j = false from decide_eq_false fun h => h hne, ← hgg]; rfl
        refine WC.seq fun K hK => ?_
        refine WC.region rfl ?_
        refine wG rfl rfl (g_lt rfl (.mk rfl rfl) (.mk rfl rfl) (decide_eq_true (by omega))) ?_
        refine WL.nil ?_
        (refine hK _ _ ?_; clear hK)
        refine WC.seq fun K hK => ?_
        refine WC.cond_true (.mk rfl rfl) ?_
        refine WC.skip ?_
        (refine hK _ _ ?_; clear hK)
        refine WC.seq fun K hK => ?_
        refine WC.block ?_
        refine WC.seq fun K hK => ?_
        refine WC.region rfl ?_
        refine wG rfl rfl (g_move rfl (.mk (v := .int _ _) rfl rfl)) ?_
        refine wG rfl rfl (g_assign rfl (.mk (v := .int _ _) rfl rfl)) ?_
        refine WL.nil ?_
        (refine hK _ _ ?_; clear hK)
        refine WC.seq fun K hK => ?_
        refine WC.quiet rfl (by kernel_rfl) (by decide +kernel) ?_
        refine WQ.want rfl (WQ1.give rfl (g_move rfl (.mk (v := .slice _ _ _) rfl rfl)) ?_)
        refine WQ.want rfl (WQ1.give rfl (g_move rfl (.mk (v := .int _ _) rfl rfl)) ?_)
        refine WQ.want rfl (WQ1.give rfl (g_indexAddr (sz := 8) rfl (.mk rfl rfl) (.mk rfl rfl) rfl rfl rfl (by omega) (fun w hw => vec_some hw (.tail _ (.head _)) (by omega))) ?_)
        refine WQ.want rfl (WQ1.give rfl (g_loadA rfl (.mk rfl rfl) rfl (sz8 _) (rdr_vec (by repeat (first | exact .head _ | apply List.Mem.tail)) (by omega) ga)) ?_)
        refine WQ.want rfl (WQ1.give rfl (g_move rfl (.mk (v := .slice _ _ _) rfl rfl)) ?_)
        refine WQ.want rfl (WQ1.give rfl (g_move rfl (.mk (v := .int _ _) rfl rfl)) ?_)
        refine WQ.want rfl (WQ1.give rfl (g_indexAddr (sz := 8) rfl (.mk rfl rfl) (.mk rfl rfl) rfl rfl rfl (by omega) (fun _ _ => sl_some hs (by omega))) ?_)
        refine WQ.want rfl (WQ1.give rfl (g_loadA rfl (.mk rfl rfl) rfl (sz8 _) (rdr_sl hs (by omega) gb)) ?_)
        refine WQ.want rfl (WQ1.give rfl (g_ane (by kernel_rfl) rfl (.mk rfl rfl) (.mk rfl rfl) E) ?_)
        refine WQ.nil ?_
        (refine hK _ _ ?_; clear hK)
        refine WC.cond_false (.mk rfl rfl) ?_
        refine WC.skip ?_
        (refine hK _ _ ?_; clear hK)
        refine WC.region rfl ?_
        refine wG rfl rfl (g_add rfl (.mk rfl rfl) (.mk rfl rfl) (IntWalk.i64_in _ (by omega))) ?_
        refine wG rfl rfl (g_move rfl (.mk (v := .int _ _) rfl rfl)) ?_
        refine WL.nil ?_
        exact ⟨j + 1, F, fc, by rw [hst]; exact (by repeat (first | exact trivial | refine ⟨rfl, ?_⟩)), by rw [hst]; exact Imp.pick (by repeat (first | exact .head | apply Take.tail)) (Imp.pick (by repeat (first | exact .head | apply Take.tail)) (Imp.nil _)), by omega, by omega⟩
      · have E := blk_ne hne
        have hst : numL (difP qs ps) (j + 1) = g ++ [j] := by rw [numL, show difP qs ps j = true from decide_eq_true hne, ← hgg]; rfl
        have hl1 : (g ++ [j]).length = g.length + 1 := by rw [List.length_append]; rfl
        refine WC.seq fun K hK => ?_
        refine WC.region rfl ?_
        refine wG rfl rfl (g_lt rfl (.mk rfl rfl) (.mk rfl rfl) (decide_eq_true (by omega))) ?_
        refine WL.nil ?_
        (refine hK _ _ ?_; clear hK)
        refine WC.seq fun K hK => ?_
        refine WC.cond_true (.mk rfl rfl) ?_
        refine WC.skip ?_
        (refine hK _ _ ?_; clear hK)
        refine WC.seq fun K hK => ?_
        refine WC.block ?_
        refine WC.seq fun K hK => ?_
        refine WC.region rfl ?_
        refine wG rfl rfl (g_move rfl (.mk (v := .int _ _) rfl rfl)) ?_
        refine wG rfl rfl (g_assign rfl (.mk (v := .int _ _) rfl rfl)) ?_
        refine WL.nil ?_
        (refine hK _ _ ?_; clear hK)
        refine WC.seq fun K hK => ?_
        refine WC.quiet rfl (by kernel_rfl) (by decide +kernel) ?_
        refine WQ.want rfl (WQ1.give rfl (g_move rfl (.mk (v := .slice _ _ _) rfl rfl)) ?_)
        refine WQ.want rfl (WQ1.give rfl (g_move rfl (.mk (v := .int _ _) rfl rfl)) ?_)
        refine WQ.want rfl (WQ1.give rfl (g_indexAddr (sz := 8) rfl (.mk rfl rfl) (.mk rfl rfl) rfl rfl rfl (by omega) (fun w hw => vec_some hw (.tail _ (.head _)) (by omega))) ?_)
        refine WQ.want rfl (WQ1.give rfl (g_loadA rfl (.mk rfl rfl) rfl (sz8 _) (rdr_vec (by repeat (first | exact .head _ | apply List.Mem.tail)) (by omega) ga)) ?_)
        refine WQ.want rfl (WQ1.give rfl (g_move rfl (.mk (v := .slice _ _ _) rfl rfl)) ?_)
        refine WQ.want rfl (WQ1.give rfl (g_move rfl (.mk (v := .int _ _) rfl rfl)) ?_)
        refine WQ.want rfl (WQ1.give rfl (g_indexAddr (sz := 8) rfl (.mk rfl rfl) (.mk rfl rfl) rfl rfl rfl (by omega) (fun _ _ => sl_some hs (by omega))) ?_)
        refine WQ.want rfl (WQ1.give rfl (g_loadA rfl (.mk rfl rfl) rfl (sz8 _) (rdr_sl hs (by omega) gb)) ?_)
        refine WQ.want rfl (WQ1.give rfl (g_ane (by kernel_rfl) rfl (.mk rfl rfl) (.mk rfl rfl) E) ?_)
        refine WQ.nil ?_
        (refine hK _ _ ?_; clear hK)
        refine WC.cond_true (.mk rfl rfl) ?_
        refine WC.region rfl ?_
        refine wG rfl rfl (g_move rfl (.mk (v := .slice _ _ _) rfl rfl)) ?_
        refine wG rfl rfl (g_move rfl (.mk (v := .int _ _) rfl rfl)) ?_
        refine WL.want rfl (WL1.lit (cs := [_]) elI rfl rfl rfl (.cons (.mk (v := .int _ _) rfl rfl) .nil) rfl (by first | (simp [Value.cells]; done) | fail) rfl rfl (fun b61 => ?_))
        refine WL.want rfl (WL1.append elI rfl rfl (.mk rfl rfl) (.mk rfl rfl) (.tail (.head)) (fun w hw => Sl.of_vec hw (.head _)) (all1 rfl) (by unfold maxLen; omega) (by omega) (fun A62 c62 => ?_))
        refine wG rfl rfl (g_assign rfl (.mk (v := .slice _ _ _) rfl rfl)) ?_
        refine WL.nil ?_
        (refine hK _ _ ?_; clear hK)
        refine WC.region rfl ?_
        refine wG rfl rfl (g_add rfl (.mk rfl rfl) (.mk rfl rfl) (IntWalk.i64_in _ (by omega))) ?_
        refine wG rfl rfl (g_move rfl (.mk (v := .int _ _) rfl rfl)) ?_
        refine WL.nil ?_
        exact ⟨j + 1, A62, c62, by rw [hst, hl1]; exact (by repeat (first | exact trivial | refine ⟨rfl, ?_⟩)), by rw [hst, hl1, ← ldv_snoc]; exact Imp.pick (by repeat (first | exact .head | apply Take.tail)) (Imp.pick (by repeat (first | exact .head | apply Take.tail)) (Imp.nil _)), by omega, by omega⟩
    · obtain rfl : j = ps.length := by omega
      refine WC.seq fun K hK => ?_
      refine WC.region rfl ?_
      refine wG rfl rfl (g_lt rfl (.mk rfl rfl) (.mk rfl rfl) (decide_eq_false (by omega))) ?_
      refine WL.nil ?_
      (refine hK _ _ ?_; clear hK)
      refine WC.seq fun K hK => ?_
      refine WC.cond_false (.mk rfl rfl) ?_
      refine WC.exit ?_
      (clear hK; refine hK _ _ ?_; clear hK)
      refine WC.seq fun K hK => ?_
      refine WC.region rfl ?_
      refine wG rfl rfl (g_move rfl (.mk (v := .slice _ _ _) rfl rfl)) ?_
      refine wG rfl rfl (g_move rfl (.mk (v := .slice _ _ _) rfl rfl)) ?_
      refine wG rfl rfl (g_assign rfl (.mk (v := .slice _ _ _) rfl rfl)) ?_
      refine wG rfl rfl (g_assign rfl (.mk (v := .slice _ _ _) rfl rfl)) ?_
      refine wG rfl rfl (g_assign rfl (.mk (v := .int _ _) rfl rfl)) ?_
      refine WL.nil ?_
      (refine hK _ _ ?_; clear hK)
      refine WC.ret ?_
      exact fun w' hw' => ⟨_, [vec Aq ps.length cq 38 8 (kvs qs), vec F g.length fc 3 1 (ldv g)], rfl, Imp.h (Imp.pick (by repeat (first | exact .head | apply Take.tail)) (Imp.pick (by repeat (first | exact .head | apply Take.tail)) (Imp.nil _))) hw', Aq, cq, F, fc, by rw [hap, ← hgg]; rfl, by rw [hap, ← hgg]⟩
end Go.Proofs.Ytnkbnponpknokaa
namespace Go.Proofs.Ytnkbnponpknokaa
set_option maxRecDepth 20000
open Go.RowKit
attribute [local irreducible] Calls
theorem elC : Elem Try.prog 29 70 (.agg (iv 0 :: z8).toArray) 9 16 := ⟨rfl, rfl, rfl, by omega⟩
theorem zeros_made (m : Nat) : (madeCells (Value.agg z8.toArray).cells (m * 8)).toList = kvs (List.replicate m 0) := by
  have key : ∀ m, (List.range (m * 8)).map (fun i => z8.toArray[i % 8]!) = kvs (List.replicate m 0) := fun m => by
    induction m with
    | zero => rfl
    | succ m ih =>
      rw [Nat.succ_mul, List.range_add, List.map_append, ih, List.replicate_succ', ← kvs_app]
      congr 1
      rw [List.map_map]
      refine (List.map_congr_left (g := fun x => z8.toArray[x % 8]!) fun x _ => ?_).trans rfl
      show z8.toArray[(m * 8 + x) % 8]! = _
      rw [Nat.mul_add_mod_self_right]
  rw [made_cells]
  exact key m
set_option maxHeartbeats 1000000 in
theorem zero_n (m : Nat) (w : World) (h1 : 4 ≤ m) (h2 : m ≤ 16) : Calls Try.prog 17 #[iv m] w fun e w' => ∃ v' M, e = .returned v' ∧ H w M w' ∧ ∃ A c, v' = .slice A m c ∧ M = [vec A m c 38 8 (kvs (List.replicate m 0))] := by
  have hval : ∀ w', Calls Try.prog 41 #[iv m] w' fun e w2 => e = .returned (.bool true) ∧ Below w'.heap.size w' w2 := fun w' => by
    have := valid_i m w'
    rwa [decide_eq_true (by omega)] at this
  refine calls_wc (args := [iv m]) [2] [] Try.func17 rfl Try.ntmps17 rfl rfl rfl rfl (H.refl _) ?_
  refine WC.seq fun K hK => ?_
  refine WC.region rfl ?_
  refine wG rfl rfl (g_assign rfl (.mk (v := .slice _ _ _) rfl rfl)) ?_
  refine WL.nil ?_
  (refine hK _ _ ?_; clear hK)
  refine WC.seq fun K hK => ?_
  refine WC.seq fun K hK => ?_
  refine WC.region rfl ?_
  refine wG rfl rfl (g_move rfl (.mk (v := .int _ _) rfl rfl)) ?_
  refine WL.want rfl (WL1.callP rfl rfl rfl (.cons (.mk (v := .int _ _) rfl rfl) .nil) (fun w hw => hval w) ?_)
  refine wG rfl rfl (g_notT rfl (.mk rfl rfl)) ?_
  refine WL.nil ?_
  (refine hK _ _ ?_; clear hK)
  refine WC.cond_false (.mk rfl rfl) ?_
  refine WC.skip ?_
  (refine hK _ _ ?_; clear hK)
  refine WC.seq fun K hK => ?_
  refine WC.region rfl ?_
  refine wG rfl rfl (g_move rfl (.mk (v := .int _ _) rfl rfl)) ?_
  refine WL.want rfl (WL1.make elK rfl rfl (.mk rfl rfl) (.mk rfl rfl) rfl rfl (by omega) (by unfold maxLen; omega) (fun b7 => ?_))
  refine wG rfl rfl (g_assign rfl (.mk (v := .slice _ _ _) rfl rfl)) ?_
  refine WL.nil ?_
  (refine hK _ _ ?_; clear hK)
  refine WC.ret ?_
  exact fun w' hw' => ⟨_, _, rfl, hw', _, _, rfl, by rw [zeros_made]⟩
set_option maxHeartbeats 1000000 in
theorem sameints_e (v1 v2 : Value) (a b : List Int) (w : World) (h1 : Sl w 1 v1 a.length (ivs a)) (h2 : Sl w 1 v2 b.length (ivs b)) :
    Calls Try.prog 16 #[v1, v2] w fun e w' => e = .returned (.bool (decide (a = b))) ∧ Below w.heap.size w w' := by
  obtain ⟨A, c, rfl, hc, hm, hs⟩ := h1.open_
  obtain ⟨A2, c2, rfl, hc2, hm2, hs2⟩ := h2.open_
  unfold maxLen at hm
  by_cases hl : a.length = b.length
  · refine calls_wc (args := [.slice A a.length c, .slice A2 b.length c2]) [4] [] Try.func16 rfl Try.ntmps16 rfl rfl rfl rfl (H.refl _) ?_
    refine WC.seq fun K hK => ?_
    refine WC.region rfl ?_
    refine wG rfl rfl (g_assign rfl (.mk (v := .bool _) rfl rfl)) ?_
    refine WL.nil ?_
    (refine hK _ _ ?_; clear hK)
    refine WC.seq fun K hK => ?_
    refine WC.seq fun K hK => ?_
    refine WC.region rfl ?_
    refine wG rfl rfl (g_move rfl (.mk (v := .slice _ _ _) rfl rfl)) ?_
    refine wG rfl rfl (g_len rfl (.mk rfl rfl) rfl) ?_
    refine wG rfl rfl (g_move rfl (.mk (v := .slice _ _ _) rfl rfl)) ?_
    refine wG rfl rfl (g_len rfl (.mk rfl rfl) rfl) ?_
    refine wG rfl rfl (g_ne rfl (.mk rfl rfl) (.mk rfl rfl) (decide_eq_false (by omega))) ?_
    refine WL.nil ?_
    (refine hK _ _ ?_; clear hK)
    refine WC.cond_false (.mk rfl rfl) ?_
    refine WC.skip ?_
    (refine hK _ _ ?_; clear hK)
    refine WC.seq fun K hK => ?_
    refine WC.seq fun K hK => ?_
    refine WC.region rfl ?_
    refine wG rfl rfl (g_assign rfl (.mk (v := .int _ _) rfl rfl)) ?_
    refine WL.nil ?_
    (refine hK _ _ ?_; clear hK)
    refine WC.block ?_
    refine WC.loopF (fun k : Nat => [(5, iv k), (0, .slice A a.length c), (1, .slice A2 b.length c2)]) (fun _ => []) (fun k => k ≤ a.length ∧ Agr a b k) (fun k => a.length - k) 0 (by repeat (first | exact trivial | refine ⟨rfl, ?_⟩)) (Imp.nil _) ⟨by omega, .zero _ _⟩ ?_
    rintro k U ⟨hk, hA⟩
    by_cases hlt : k < a.length
    · have g1 := ivs_get (l := a) (k := k) hlt
      have g2 := ivs_get (l := b) (k := k) (by omega)
      by_cases he : nth a k = nth b k
      · refine WC.seq fun K hK => ?_
        refine WC.seq fun K hK => ?_
        refine WC.region rfl ?_
        refine wG rfl rfl (g_move rfl (.mk (v := .int _ _) rfl rfl)) ?_
        refine wG rfl rfl (g_move rfl (.mk (v := .slice _ _ _) rfl rfl)) ?_
        refine wG rfl rfl (g_len rfl (.mk rfl rfl) rfl) ?_
        refine wG rfl rfl (g_lt rfl (.mk rfl rfl) (.mk rfl rfl) (decide_eq_true (by omega))) ?_
        refine WL.nil ?_
        (refine hK _ _ ?_; clear hK)
        refine WC.cond_true (.mk rfl rfl) ?_
        refine WC.skip ?_
        (refine hK _ _ ?_; clear hK)
        refine WC.seq fun K hK => ?_
        refine WC.block ?_
        refine WC.seq fun K hK => ?_
        refine WC.quiet rfl (by kernel_rfl) (by decide +kernel) ?_
        refine WQ.want rfl (WQ1.give rfl (g_move rfl (.mk (v := .slice _ _ _) rfl rfl)) ?_)
        refine WQ.want rfl (WQ1.give rfl (g_move rfl (.mk (v := .int _ _) rfl rfl)) ?_)
        refine WQ.want rfl (WQ1.give rfl (g_indexAddr (sz := 1) rfl (.mk rfl rfl) (.mk rfl rfl) rfl rfl rfl (by omega) (fun _ _ => sl_some hs (by omega))) ?_)
        refine WQ.want rfl (WQ1.give rfl (g_load rfl (.mk rfl rfl) rfl (rd_sl hs g1)) ?_)
        refine WQ.want rfl (WQ1.give rfl (g_move rfl (.mk (v := .slice _ _ _) rfl rfl)) ?_)
        refine WQ.want rfl (WQ1.give rfl (g_move rfl (.mk (v := .int _ _) rfl rfl)) ?_)
        refine WQ.want rfl (WQ1.give rfl (g_indexAddr (sz := 1) rfl (.mk rfl rfl) (.mk rfl rfl) rfl rfl rfl (by omega) (fun _ _ => sl_some hs2 (by omega))) ?_)
        refine WQ.want rfl (WQ1.give rfl (g_load rfl (.mk rfl rfl) rfl (rd_sl hs2 g2)) ?_)
        refine WQ.want rfl (WQ1.give rfl (g_ne rfl (.mk rfl rfl) (.mk rfl rfl) (decide_eq_false (by omega))) ?_)
        refine WQ.nil ?_
        (refine hK _ _ ?_; clear hK)
        refine WC.cond_false (.mk rfl rfl) ?_
        refine WC.skip ?_
        (refine hK _ _ ?_; clear hK)
        refine WC.region rfl ?_
        refine wG rfl rfl (g_move rfl (.mk (v := .int _ _) rfl rfl)) ?_
        refine wG rfl rfl (g_add rfl (.mk rfl rfl) (.mk rfl rfl) (IntWalk.i64_in _ (by omega))) ?_
        refine wG rfl rfl (g_assign rfl (.mk (v := .int _ _) rfl rfl)) ?_
        refine WL.nil ?_
        exact ⟨k + 1, (by repeat (first | exact trivial | refine ⟨rfl, ?_⟩)), .refl _, ⟨by omega, hA.succ he⟩, by omega⟩
      · refine WC.seq fun K hK => ?_
        refine WC.seq fun K hK => ?_
        refine WC.region rfl ?_
        refine wG rfl rfl (g_move rfl (.mk (v := .int _ _) rfl rfl)) ?_
        refine wG rfl rfl (g_move rfl (.mk (v := .slice _ _ _) rfl rfl)) ?_
        refine wG rfl rfl (g_len rfl (.mk rfl rfl) rfl) ?_
        refine wG rfl rfl (g_lt rfl (.mk rfl rfl) (.mk rfl rfl) (decide_eq_true (by omega))) ?_
        refine WL.nil ?_
        (refine hK _ _ ?_; clear hK)
        refine WC.cond_true (.mk rfl rfl) ?_
        refine WC.skip ?_
        (refine hK _ _ ?_; clear hK)
        refine WC.seq fun K hK => ?_
        refine WC.block ?_
        refine WC.seq fun K hK => ?_
        refine WC.quiet rfl (by kernel_rfl) (by decide +kernel) ?_
        refine WQ.want rfl (WQ1.give rfl (g_move rfl (.mk (v := .slice _ _ _) rfl rfl)) ?_)
        refine WQ.want rfl (WQ1.give rfl (g_move rfl (.mk (v := .int _ _) rfl rfl)) ?_)
        refine WQ.want rfl (WQ1.give rfl (g_indexAddr (sz := 1) rfl (.mk rfl rfl) (.mk rfl rfl) rfl rfl rfl (by omega) (fun _ _ => sl_some hs (by omega))) ?_)
        refine WQ.want rfl (WQ1.give rfl (g_load rfl (.mk rfl rfl) rfl (rd_sl hs g1)) ?_)
        refine WQ.want rfl (WQ1.give rfl (g_move rfl (.mk (v := .slice _ _ _) rfl rfl)) ?_)
        refine WQ.want rfl (WQ1.give rfl (g_move rfl (.mk (v := .int _ _) rfl rfl)) ?_)
        refine WQ.want rfl (WQ1.give rfl (g_indexAddr (sz := 1) rfl (.mk rfl rfl) (.mk rfl rfl) rfl rfl rfl (by omega) (fun _ _ => sl_some hs2 (by omega))) ?_)
        refine WQ.want rfl (WQ1.give rfl (g_load rfl (.mk rfl rfl) rfl (rd_sl hs2 g2)) ?_)
        refine WQ.want rfl (WQ1.give rfl (g_ne rfl (.mk rfl rfl) (.mk rfl rfl) (decide_eq_true (by omega))) ?_)
        refine WQ.nil ?_
        (refine hK _ _ ?_; clear hK)
        refine WC.cond_true (.mk rfl rfl) ?_
        refine WC.seq fun K hK => ?_
        refine WC.region rfl ?_
        refine wG rfl rfl (g_assign rfl (.mk (v := .bool _) rfl rfl)) ?_
        refine WL.nil ?_
        (refine hK _ _ ?_; clear hK)
        refine WC.ret ?_
        exact fun w' hw' => ⟨by rw [decide_eq_false (fun h => he (by rw [h]))]; rfl, hw'.1⟩
    · obtain rfl : k = a.length := by omega
      refine WC.seq fun K hK => ?_
      refine WC.seq fun K hK => ?_
      refine WC.region rfl ?_
      refine wG rfl rfl (g_move rfl (.mk (v := .int _ _) rfl rfl)) ?_
      refine wG rfl rfl (g_move rfl (.mk (v := .slice _ _ _) rfl rfl)) ?_
      refine wG rfl rfl (g_len rfl (.mk rfl rfl) rfl) ?_
      refine wG rfl rfl (g_lt rfl (.mk rfl rfl) (.mk rfl rfl) (decide_eq_false (by omega))) ?_
      refine WL.nil ?_
      (refine hK _ _ ?_; clear hK)
      refine WC.cond_false (.mk rfl rfl) ?_
      refine WC.exit ?_
      (clear hK; refine hK _ _ ?_; clear hK)
      refine WC.seq fun K hK => ?_
      refine WC.region rfl ?_
      refine wG rfl rfl (g_assign rfl (.mk (v := .bool _) rfl rfl)) ?_
      refine WL.nil ?_
      (refine hK _ _ ?_; clear hK)
      refine WC.ret ?_
      exact fun w' hw' => ⟨by rw [decide_eq_true (hA.all hl)]; rfl, hw'.1⟩
  · refine calls_wc (args := [.slice A a.length c, .slice A2 b.length c2]) [4] [] Try.func16 rfl Try.ntmps16 rfl rfl rfl rfl (H.refl _) ?_
    refine WC.seq fun K hK => ?_
    refine WC.region rfl ?_
    refine wG rfl rfl (g_assign rfl (.mk (v := .bool _) rfl rfl)) ?_
    refine WL.nil ?_
    (refine hK _ _ ?_; clear hK)
    refine WC.seq fun K hK => ?_
    refine WC.seq fun K hK => ?_
    refine WC.region rfl ?_
    refine wG rfl rfl (g_move rfl (.mk (v := .slice _ _ _) rfl rfl)) ?_
    refine wG rfl rfl (g_len rfl (.mk rfl rfl) rfl) ?_
    refine wG rfl rfl (g_move rfl (.mk (v := .slice _ _ _) rfl rfl)) ?_
    refine wG rfl rfl (g_len rfl (.mk rfl rfl) rfl) ?_
    refine wG rfl rfl (g_ne rfl (.mk rfl rfl) (.mk rfl rfl) (decide_eq_true (by omega))) ?_
    refine WL.nil ?_
    (refine hK _ _ ?_; clear hK)
    refine WC.cond_true (.mk rfl rfl) ?_
    refine WC.seq fun K hK => ?_
    refine WC.region rfl ?_
    refine wG rfl rfl (g_assign rfl (.mk (v := .bool _) rfl rfl)) ?_
    refine WL.nil ?_
    (refine hK _ _ ?_; clear hK)
    refine WC.ret ?_
    exact fun w' hw' => ⟨by rw [decide_eq_false (fun h => hl (by rw [h]))]; rfl, hw'.1⟩
theorem sameints_t {v1 v2 : Value} {a b : List Nat} {n m : Nat} {w : World} (h1 : Sl w 1 v1 n (ldv a)) (h2 : Sl w 1 v2 m (ldv b)) (hn : a.length = n) (hm : b.length = m) (he : a = b) : Calls Try.prog 16 #[v1, v2] w fun e w' => e = .returned (.bool true) ∧ Below w.heap.size w w' := by
  subst hn; subst hm; subst he
  have := sameints_e v1 v2 (a.map fun k : Nat => (k : Int)) (a.map fun k : Nat => (k : Int)) w (by rw [List.length_map, ← ldv_ivs]; exact h1) (by rw [List.length_map, ← ldv_ivs]; exact h2)
  rwa [decide_eq_true rfl] at this
theorem reads_k {w : World} {A B : Option Addr} {c d N m t : Nat} {zm : Int} {T : List Int} {bs : List Bool} {out : List Nat} (hzm : zm = (m : Int)) (hbl : bs.length = m) (ht : T.length = t) (hN : m = N + 3) (h1 : 1 ≤ N) (h2 : N ≤ 13) (hT : ∀ i, i < T.length → okT m T i) (h0 : 0 < t) (hT2 : t ≤ 1000000)
    (hb3 : (numL (fun i => nth bs i) m).length ≤ 3) (hg : N ≤ (numL (gP bs) m).length) (ho : (o3 N T bs).getD [] = out) (hs : Sl w 1 (.slice A t c) t (ivs T)) (hsb : Sl w 1 (.slice B m d) m (bls bs)) :
    Calls Try.prog 20 #[iv zm, .slice A t c, .slice B m d] w fun e w' => ∃ v' M, e = .returned v' ∧ H w M w' ∧ ∃ A1 c1, v' = .tuple #[.slice A1 out.length c1, iv 0] ∧ M = [vec A1 out.length c1 3 1 (ldv out)] := by
  subst hzm; subst hbl; subst ht; subst ho
  exact reads_n hN h1 h2 hs hsb hT h0 hT2 hb3 hg
theorem apply_k {vp vl : Value} {ps qs : List Blk} {l : List Chg} {n m t k : Nat} {ds : List Nat} {w : World} (hpl : ps.length = m) (hll : l.length = t) (hn : m = n + 3) (h1 : 1 ≤ n) (h2 : n ≤ 13) (ht : t ≤ 1000000) (hg : isGroup ps = true) (ho : okC m l = true) (hq : apL ps l = qs) (hd : numL (difP qs ps) m = ds) (hk : ds.length = k) (hp : Sl w 8 vp m (kvs ps)) (hl : Sl w 9 vl t (cvs l)) :
    Calls Try.prog 12 #[vp, vl] w fun e w' => ∃ v' M, e = .returned v' ∧ H w M w' ∧ ∃ A c F fc, v' = .tuple #[.slice A m c, .slice F k fc, iv 0] ∧ M = [vec A m c 38 8 (kvs qs), vec F k fc 3 1 (ldv ds)] := by
  subst hk; subst hpl; subst hll; subst hq; subst hd
  exact gapply_n vp vl ps l n w hp hl hn h1 h2 ht hg ho
theorem bls_made (m : Nat) : (madeCells (Value.bool false).cells (m * 1)).toList = bls (List.replicate m false) := by
  rw [show (Value.bool false).cells = #[.bool false] from rfl, made_one]; simp [bls]
theorem ex_r1 : (o3 5 [0] (List.replicate 8 false)).getD [] = [0, 5, 6, 7] := by decide +kernel
theorem ex_r2 : (o3 5 [1, 3] (List.replicate 8 false)).getD [] = [0, 2, 4] := by decide +kernel
theorem ex_t1 : ∀ i, i < ([0] : List Int).length → okT ((8 : Nat) : Int) [0] i := fun i hi => match i, hi with | 0, _ => ⟨by decide, by decide, .inl rfl⟩
theorem ex_t2 : ∀ i, i < ([1, 3] : List Int).length → okT ((8 : Nat) : Int) [1, 3] i := fun i hi => match i, hi with | 0, _ => ⟨by decide, by decide, .inl rfl⟩ | 1, _ => ⟨by decide, by decide, .inr (by decide)⟩
theorem ex_ap : apL (List.replicate 4 0) [⟨0, lb (gn 7)⟩] = [lb (gn 7), lb (gn 7), lb (gn 7), lb (gn 7)] := by decide +kernel
theorem ex_df : numL (difP [lb (gn 7), lb (gn 7), lb (gn 7), lb (gn 7)] (List.replicate 4 0)) 4 = [0, 1, 2, 3] := by decide +kernel
set_option maxHeartbeats 4000000 in
theorem awake_e (w : World) : Calls Try.prog 11 #[] w fun e w' => e = .returned (.bool true) ∧ Below w.heap.size w w' := by
  have E := blk_eq (a := lb (gn 7)) (b := lb (gn 7)) rfl
  have g1 : ∀ j u, (lb (gn 7)).cells[j]? = some u → (kvs [lb (gn 7), lb (gn 7), lb (gn 7), lb (gn 7)])[1 * 8 + j]? = some u := fun j u h => flat_row (l := [lb (gn 7), lb (gn 7), lb (gn 7), lb (gn 7)]) (k := 1) blk8 (by decide) j u h
  refine calls_wc (args := []) [0] [] Try.func11 rfl Try.ntmps11 rfl rfl rfl rfl (H.refl _) ?_
  refine WC.seq fun K hK => ?_
  refine WC.region rfl ?_
  refine wG rfl rfl (g_assign rfl (.mk (v := .bool _) rfl rfl)) ?_
  refine WL.nil ?_
  (refine hK _ _ ?_; clear hK)
  refine WC.seq fun K hK => ?_
  refine WC.region rfl ?_
  refine WL.want rfl (WL1.lit (cs := [_]) elI rfl rfl rfl (.cons (.mk (v := .int _ _) rfl rfl) .nil) rfl (by first | (simp [Value.cells]; done) | fail) rfl rfl (fun b9 => ?_))
  refine WL.want rfl (WL1.make elBo rfl rfl (.mk rfl rfl) (.mk rfl rfl) (Int.toNat_of_nonneg (by omega)).symm (Int.toNat_of_nonneg (by omega)).symm (by omega) (by unfold maxLen; omega) (fun b10 => ?_))
  (refine WL.want rfl (WL1.callN rfl rfl rfl (.cons (.mk (v := .int _ _) rfl rfl) (.cons (.mk (v := .slice _ _ _) rfl rfl) (.cons (.mk (v := .slice _ _ _) rfl rfl) .nil))) (fun w hw => reads_k (m := 8) (N := 5) (out := [0, 5, 6, 7]) rfl rfl rfl rfl (by omega) (by omega) ex_t1 (by omega) (by omega) (by decide) (by decide) ex_r1 (Sl.of_vec hw (.tail _ (.head _))) (Sl.of_vecE hw (.head _) rfl (bls_made 8))) ?_); rintro _ _ ⟨A1, c1, rfl, rfl⟩)
  refine wG rfl rfl (g_move rfl (.mk (v := .tuple _) rfl rfl)) ?_
  refine wG rfl rfl (g_extract rfl (.mk rfl rfl) rfl) ?_
  refine wG rfl rfl (g_extract rfl (.mk rfl rfl) rfl) ?_
  refine wG rfl rfl (g_assign rfl (.mk (v := .slice _ _ _) rfl rfl)) ?_
  refine wG rfl rfl (g_assign rfl (.mk (v := .int _ _) rfl rfl)) ?_
  refine WL.nil ?_
  (refine hK _ _ ?_; clear hK)
  refine WC.seq fun K hK => ?_
  refine WC.region rfl ?_
  refine WL.want rfl (WL1.lit (cs := [_, _]) elI rfl rfl rfl (.cons (.mk (v := .int _ _) rfl rfl) (.cons (.mk (v := .int _ _) rfl rfl) .nil)) rfl (by first | (simp [Value.cells]; done) | fail) rfl rfl (fun b15 => ?_))
  refine WL.want rfl (WL1.make elBo rfl rfl (.mk rfl rfl) (.mk rfl rfl) (Int.toNat_of_nonneg (by omega)).symm (Int.toNat_of_nonneg (by omega)).symm (by omega) (by unfold maxLen; omega) (fun b16 => ?_))
  (refine WL.want rfl (WL1.callN rfl rfl rfl (.cons (.mk (v := .int _ _) rfl rfl) (.cons (.mk (v := .slice _ _ _) rfl rfl) (.cons (.mk (v := .slice _ _ _) rfl rfl) .nil))) (fun w hw => reads_k (m := 8) (N := 5) (out := [0, 2, 4]) rfl rfl rfl rfl (by omega) (by omega) ex_t2 (by omega) (by omega) (by decide) (by decide) ex_r2 (Sl.of_vec hw (.tail _ (.head _))) (Sl.of_vecE hw (.head _) rfl (bls_made 8))) ?_); rintro _ _ ⟨A2, c2, rfl, rfl⟩)
  refine wG rfl rfl (g_move rfl (.mk (v := .tuple _) rfl rfl)) ?_
  refine wG rfl rfl (g_extract rfl (.mk rfl rfl) rfl) ?_
  refine wG rfl rfl (g_extract rfl (.mk rfl rfl) rfl) ?_
  refine wG rfl rfl (g_assign rfl (.mk (v := .slice _ _ _) rfl rfl)) ?_
  refine wG rfl rfl (g_assign rfl (.mk (v := .int _ _) rfl rfl)) ?_
  refine WL.nil ?_
  (refine hK _ _ ?_; clear hK)
  refine WC.seq fun K hK => ?_
  refine WC.region rfl ?_
  (refine WL.want rfl (WL1.callN rfl rfl rfl (.cons (.mk (v := .int _ _) rfl rfl) .nil) (fun w hw => zero_n 4 w (by omega) (by omega)) ?_); rintro _ _ ⟨A3, c3, rfl, rfl⟩)
  refine wG rfl rfl (g_buildArr (cs := [_, _, _, _, _, _, _, _]) rfl rfl rfl rfl rfl (.cons (.mk (v := .int _ _) rfl rfl) .nil) rfl rfl rfl) ?_
  refine wG rfl rfl (g_buildS (us := [(0, [_]), (1, (lb (gn 7)).cells)]) (cs := Chg.cells ⟨0, lb (gn 7)⟩) rfl rfl rfl rfl (.cons (.mk (v := .int _ _) rfl rfl) (.cons (.mk (v := .agg _) rfl rfl) .nil)) rfl (fun p hp => by simp only [List.mem_cons, List.not_mem_nil, or_false] at hp; rcases hp with rfl | rfl <;> exact ⟨_, _, rfl, rfl, by decide⟩) rfl) ?_
  refine WL.want rfl (WL1.lit elC rfl rfl rfl (.cons (.mk (v := .agg _) rfl rfl) .nil) rfl (by intro v hv; rw [List.mem_singleton] at hv; subst hv; show (Chg.cells _).toArray.size = 9; rw [List.size_toArray, Chg.len]) (List.append_nil _) rfl (fun b24 => ?_))
  (refine WL.want rfl (WL1.callN rfl rfl rfl (.cons (.mk (v := .slice _ _ _) rfl rfl) (.cons (.mk (v := .slice _ _ _) rfl rfl) .nil)) (fun w hw => apply_k (ps := List.replicate 4 0) (l := [⟨0, lb (gn 7)⟩]) (t := 1) (m := 4) (n := 1) (k := 4) rfl rfl rfl (by omega) (by omega) (by omega) (by decide +kernel) (by decide +kernel) ex_ap ex_df rfl (Sl.of_vec hw (.tail _ (.head _))) (Sl.of_vecE hw (.head _) rfl rfl)) ?_); rintro _ _ ⟨A4, c4, F4, f4, rfl, rfl⟩)
  refine wG rfl rfl (g_move rfl (.mk (v := .tuple _) rfl rfl)) ?_
  refine wG rfl rfl (g_extract rfl (.mk rfl rfl) rfl) ?_
  refine wG rfl rfl (g_extract rfl (.mk rfl rfl) rfl) ?_
  refine wG rfl rfl (g_extract rfl (.mk rfl rfl) rfl) ?_
  refine wG rfl rfl (g_assign rfl (.mk (v := .slice _ _ _) rfl rfl)) ?_
  refine wG rfl rfl (g_assign rfl (.mk (v := .slice _ _ _) rfl rfl)) ?_
  refine wG rfl rfl (g_assign rfl (.mk (v := .int _ _) rfl rfl)) ?_
  refine WL.nil ?_
  (refine hK _ _ ?_; clear hK)
  refine WC.seq fun K hK => ?_
  refine WC.region rfl ?_
  refine wG rfl rfl (g_move rfl (.mk (v := .int _ _) rfl rfl)) ?_
  refine wG rfl rfl (g_eq rfl (.mk rfl rfl) (.mk rfl rfl) (decide_eq_true (by omega))) ?_
  refine wG rfl rfl (g_move rfl (.mk (v := .bool _) rfl rfl)) ?_
  refine WL.wantG rfl rfl rfl rfl (WL1.give rfl (g_move rfl (.mk (v := .int _ _) rfl rfl)) ?_)
  refine WL.wantG rfl rfl rfl rfl (WL1.give rfl (g_eq rfl (.mk rfl rfl) (.mk rfl rfl) (decide_eq_true (by omega))) ?_)
  refine wG rfl rfl (g_pickT rfl (.mk rfl rfl) (.mk (v := .bool _) rfl rfl)) ?_
  refine wG rfl rfl (g_move rfl (.mk (v := .bool _) rfl rfl)) ?_
  refine WL.wantG rfl rfl rfl rfl (WL1.give rfl (g_move rfl (.mk (v := .int _ _) rfl rfl)) ?_)
  refine WL.wantG rfl rfl rfl rfl (WL1.give rfl (g_eq rfl (.mk rfl rfl) (.mk rfl rfl) (decide_eq_true (by omega))) ?_)
  refine wG rfl rfl (g_pickT rfl (.mk rfl rfl) (.mk (v := .bool _) rfl rfl)) ?_
  refine wG rfl rfl (g_move rfl (.mk (v := .bool _) rfl rfl)) ?_
  refine WL.wantG rfl rfl rfl rfl (WL1.give rfl (g_move rfl (.mk (v := .slice _ _ _) rfl rfl)) ?_)
  refine WL.wantG rfl rfl rfl rfl (WL1.lit (cs := [_, _, _, _]) elI rfl rfl rfl (.cons (.mk (v := .int _ _) rfl rfl) (.cons (.mk (v := .int _ _) rfl rfl) (.cons (.mk (v := .int _ _) rfl rfl) (.cons (.mk (v := .int _ _) rfl rfl) .nil)))) rfl (by first | (simp [Value.cells]; done) | fail) rfl rfl (fun b41 => ?_))
  refine WL.wantG rfl rfl rfl rfl (WL1.callP rfl rfl rfl (.cons (.mk (v := .slice _ _ _) rfl rfl) (.cons (.mk (v := .slice _ _ _) rfl rfl) .nil)) (fun w hw => sameints_t (a := [0, 5, 6, 7]) (b := [0, 5, 6, 7]) (Sl.of_vec hw (by repeat (first | exact .head _ | apply List.Mem.tail))) (Sl.of_vec hw (.head _)) rfl rfl rfl) ?_)
  refine wG rfl rfl (g_pickT rfl (.mk rfl rfl) (.mk (v := .bool _) rfl rfl)) ?_
  refine wG rfl rfl (g_move rfl (.mk (v := .bool _) rfl rfl)) ?_
  refine WL.wantG rfl rfl rfl rfl (WL1.give rfl (g_move rfl (.mk (v := .slice _ _ _) rfl rfl)) ?_)
  refine WL.wantG rfl rfl rfl rfl (WL1.lit (cs := [_, _, _]) elI rfl rfl rfl (.cons (.mk (v := .int _ _) rfl rfl) (.cons (.mk (v := .int _ _) rfl rfl) (.cons (.mk (v := .int _ _) rfl rfl) .nil))) rfl (by first | (simp [Value.cells]; done) | fail) rfl rfl (fun b46 => ?_))
  refine WL.wantG rfl rfl rfl rfl (WL1.callP rfl rfl rfl (.cons (.mk (v := .slice _ _ _) rfl rfl) (.cons (.mk (v := .slice _ _ _) rfl rfl) .nil)) (fun w hw => sameints_t (a := [0, 2, 4]) (b := [0, 2, 4]) (Sl.of_vec hw (by repeat (first | exact .head _ | apply List.Mem.tail))) (Sl.of_vec hw (.head _)) rfl rfl rfl) ?_)
  refine wG rfl rfl (g_pickT rfl (.mk rfl rfl) (.mk (v := .bool _) rfl rfl)) ?_
  refine wG rfl rfl (g_move rfl (.mk (v := .bool _) rfl rfl)) ?_
  refine WL.wantG rfl rfl rfl rfl (WL1.give rfl (g_move rfl (.mk (v := .slice _ _ _) rfl rfl)) ?_)
  refine WL.wantG rfl rfl rfl rfl (WL1.give rfl (g_len rfl (.mk rfl rfl) rfl) ?_)
  refine WL.wantG rfl rfl rfl rfl (WL1.give rfl (g_eq rfl (.mk rfl rfl) (.mk rfl rfl) (decide_eq_true (by omega))) ?_)
  refine wG rfl rfl (g_pickT rfl (.mk rfl rfl) (.mk (v := .bool _) rfl rfl)) ?_
  refine wG rfl rfl (g_move rfl (.mk (v := .bool _) rfl rfl)) ?_
  refine WL.wantG rfl rfl rfl rfl (WL1.give rfl (g_move rfl (.mk (v := .slice _ _ _) rfl rfl)) ?_)
  refine WL.wantG rfl rfl rfl rfl (WL1.give rfl (g_indexAddr (sz := 8) rfl (.mk rfl rfl) (.mk rfl rfl) rfl rfl (show _ = ((1 : Nat) : Int) from rfl) (by omega) (fun w hw => vec_some hw (.tail _ (.tail _ (.head _))) (by omega))) ?_)
  refine WL.wantG rfl rfl rfl rfl (WL1.give rfl (g_loadA rfl (.mk rfl rfl) rfl rfl (rdr_vec (cs := (lb (gn 7)).cells) (by repeat (first | exact .head _ | apply List.Mem.tail)) (by omega) g1)) ?_)
  refine WL.wantG rfl rfl rfl rfl (WL1.give rfl (g_buildArr (cs := [_, _, _, _, _, _, _, _]) rfl rfl rfl rfl rfl (.cons (.mk (v := .int _ _) rfl rfl) .nil) rfl rfl rfl) ?_)
  refine WL.wantG rfl rfl rfl rfl (WL1.give rfl (g_aeq (by kernel_rfl) rfl (.mk rfl rfl) (.mk rfl rfl) E) ?_)
  refine wG rfl rfl (g_pickT rfl (.mk rfl rfl) (.mk (v := .bool _) rfl rfl)) ?_
  refine wG rfl rfl (g_move rfl (.mk (v := .bool _) rfl rfl)) ?_
  refine WL.wantG rfl rfl rfl rfl (WL1.give rfl (g_move rfl (.mk (v := .slice _ _ _) rfl rfl)) ?_)
  refine WL.wantG rfl rfl rfl rfl (WL1.give rfl (g_len rfl (.mk rfl rfl) rfl) ?_)
  refine WL.wantG rfl rfl rfl rfl (WL1.give rfl (g_eq rfl (.mk rfl rfl) (.mk rfl rfl) (decide_eq_true (by omega))) ?_)
  refine wG rfl rfl (g_pickT rfl (.mk rfl rfl) (.mk (v := .bool _) rfl rfl)) ?_
  refine wG rfl rfl (g_assign rfl (.mk (v := .bool _) rfl rfl)) ?_
  refine WL.nil ?_
  (refine hK _ _ ?_; clear hK)
  refine WC.ret ?_
  exact fun w' hw' => ⟨rfl, hw'.1⟩
end Go.Proofs.Ytnkbnponpknokaa
namespace Go.Proofs.Ytnkbnponpknokaa
set_option maxRecDepth 20000
open Go.RowKit Go.WideShapes Go.ChangeShapes Go.ChangeAt
theorem Lf.chg {cs : List Value} (h : Lf (some .i64 :: blkK) cs) : ∃ x : Chg, cs = x.cells ∧ x.ok := by
  obtain ⟨z, ds, rfl, h1, h2, h3⟩ := h.iv
  obtain ⟨b, rfl⟩ := h3.blk
  exact ⟨⟨z, b⟩, rfl, h1, h2⟩
section
variable {H : Type} {enc : TypeId × Value → H} {W : World}
end
end Go.Proofs.Ytnkbnponpknokaa
namespace Go.Proofs.Ytnkbnponpknokaa
set_option maxRecDepth 20000
open Go.RowKit Go.WideShapes Go.ChangeShapes Go.ChangeAt
section
variable {H : Type} {enc : TypeId × Value → H} {P : Program}
theorem open_run {w : World} {sz : Nat} {t e : TypeId} {cs0 : List Value} {fuel : Nat} {x0 : DataW H × List MemPlace} (ht : P.underlying t = some (.slice e)) (hC : P.cellsOf e = sz) (hsz : 0 < sz) (hf : DataW.trod enc P w 0 (fun _ => true) true fuel t cs0 = some x0) :
    ∃ v A n c, cs0 = [v] ∧ v = Value.slice A n c ∧ ∃ css : List (List Value), (∀ cs ∈ css, cs.length = sz) ∧ Sl w sz v css.length css.flatten ∧
      ∀ cs ∈ css, ∃ fuel x, DataW.trod enc P w 0 (fun _ => true) true fuel e cs = some x := by
  rcases Deep.open_slice ht hf with ⟨hcs, _⟩ | ⟨a, len', cap', m, n, D, Pl, hcs, _, hl, hm, hmm, _, hel⟩
  · exact ⟨_, _, _, _, hcs, rfl, [], by simp, Sl.nil w sz, by simp⟩
  · refine ⟨_, _, _, _, hcs, rfl, ?_⟩
    have hmc : m = cap' := by simpa using hmm
    have each : ∀ i, ∃ cs : List Value, i < len' → cs.length = sz ∧ (∀ j, j < sz → w.cell? (a.add (i * sz + j)) = cs[j]?) ∧ ∃ fuel x, DataW.trod enc P w 0 (fun _ => true) true fuel e cs = some x := by
      intro i
      by_cases hi : i < len'
      · obtain ⟨cs', h1, h2⟩ := hel i (by omega)
        rw [hC] at h1
        obtain ⟨_, h4, h5⟩ := World.cells?_some h1
        exact ⟨cs', fun _ => ⟨h4, fun j hj => by rw [← h5 j hj, addAdd], n, _, h2⟩⟩
      · exact ⟨[], fun h => absurd h hi⟩
    obtain ⟨f, hfx⟩ := Classical.axiomOfChoice each
    have hlen : ∀ cs ∈ (List.range len').map f, cs.length = sz := by
      intro cs hcs
      obtain ⟨i, hi, rfl⟩ := List.mem_map.1 hcs
      exact (hfx i (List.mem_range.1 hi)).1
    refine ⟨(List.range len').map f, hlen, ?_, ?_⟩
    · have hnl : ((List.range len').map f).length = len' := by simp
      rw [hnl]
      refine ⟨by rw [flatten_len hlen, hnl], some a, cap', rfl, hl, hm, fun hn => ⟨a, rfl, ?_, ?_⟩⟩
      · obtain ⟨h1, h2, _⟩ := hfx 0 hn
        have h3 := h2 0 hsz
        have h4 : (f 0)[0]? = some ((f 0)[0]'(by omega)) := List.getElem?_eq_getElem (by omega)
        rw [h4] at h3
        have := World.block_lt_of_cell? w _ h3
        rwa [addBlock] at this
      · intro q u hu
        have hq : q < len' * sz := by
          have := (List.getElem?_eq_some_iff.1 hu).1
          rwa [flatten_len hlen, hnl] at this
        have e1 : q = q / sz * sz + q % sz := by rw [Nat.mul_comm]; exact (Nat.div_add_mod q sz).symm
        have hj : q % sz < sz := Nat.mod_lt _ hsz
        have hi : q / sz < len' := Nat.div_lt_of_lt_mul (by rwa [Nat.mul_comm] at hq)
        rw [e1] at hu ⊢
        rw [flatten_get hlen _ _ hj] at hu
        rw [(hfx _ hi).2.1 _ hj]
        simpa [hi] using hu
    · intro cs hcs
      obtain ⟨i, hi, rfl⟩ := List.mem_map.1 hcs
      exact (hfx i (List.mem_range.1 hi)).2.2
end
section
variable {H : Type} {enc : TypeId × Value → H} {W : World}
theorem blks_of {fuel : Nat} {cs : List Value} {x : DataW H × List MemPlace} (h : DataW.trod enc Try.prog W 0 (fun _ => true) true fuel 22 cs = some x) : ∃ (v : Value) (l : List Blk), cs = [v] ∧ Sl W 8 v l.length (kvs l) := by
  obtain ⟨v, A, n, c, e, ev, css, h1, h2, h3⟩ := open_run (sz := 8) Try.underlying22 (by kernel_rfl) (by omega) h
  obtain ⟨l, rfl, e2, _⟩ := each_flat (ok := fun _ : Blk => True) (fun c hc => by obtain ⟨b, e⟩ := hc.blk; exact ⟨b, e, trivial⟩) fun c hc => by obtain ⟨f, x, hx⟩ := h3 c hc; exact flat_trod (show fltT Try.prog 8 38 = some blkK by kernel_rfl) hx
  rw [e2, List.length_map] at h2
  exact ⟨v, l, e, h2⟩
end
end Go.Proofs.Ytnkbnponpknokaa
namespace Go.Proofs.Ytnkbnponpknokaa
set_option maxRecDepth 20000
open Go.RowKit Go.WideShapes Go.ChangeShapes Go.ChangeAt
section
variable {H : Type} {enc : TypeId × Value → H} {W : World}
theorem flat_one {α β : Type} (f : α → β) : ∀ l : List α, (l.flatMap fun z => [f z]) = l.map f
  | [] => rfl
  | a :: l => by rw [List.flatMap_cons, flat_one f l]; rfl
theorem ints_of {fuel : Nat} {cs : List Value} {x : DataW H × List MemPlace} (h : DataW.trod enc Try.prog W 0 (fun _ => true) true fuel 25 cs = some x) : ∃ (v : Value) (l : List Int), cs = [v] ∧ Sl W 1 v l.length (ivs l) := by
  obtain ⟨v, A, n, c, e, ev, css, h1, h2, h3⟩ := open_run (sz := 1) Try.underlying25 (by kernel_rfl) (by omega) h
  obtain ⟨l, rfl, e2, _⟩ := each_flat (ks := [some .i64]) (enc' := fun z : Int => [Value.int .i64 z]) (ok := fun _ : Int => True) (fun c hc => by
    cases hc with
    | int hw h => cases h; exact ⟨_, rfl, trivial⟩) fun c hc => by obtain ⟨f, x, hx⟩ := h3 c hc; exact flat_trod (show fltT Try.prog 8 3 = some [some .i64] by kernel_rfl) hx
  rw [e2, List.length_map] at h2
  refine ⟨v, l, e, ?_⟩
  have : (l.flatMap fun z : Int => [Value.int .i64 z]) = ivs l := flat_one _ l
  rwa [this] at h2
theorem chgs_of {fuel : Nat} {cs : List Value} {x : DataW H × List MemPlace} (h : DataW.trod enc Try.prog W 0 (fun _ => true) true fuel 23 cs = some x) : ∃ (v : Value) (l : List Chg), cs = [v] ∧ Sl W 9 v l.length (cvs l) := by
  obtain ⟨v, A, n, c, e, ev, css, h1, h2, h3⟩ := open_run (sz := 9) Try.underlying23 (by kernel_rfl) (by omega) h
  obtain ⟨l, rfl, e2, _⟩ := each_flat (fun c hc => hc.chg) fun c hc => by obtain ⟨f, x, hx⟩ := h3 c hc; exact flat_trod (show fltT Try.prog 8 43 = some (some .i64 :: blkK) by kernel_rfl) hx
  rw [e2, List.length_map] at h2
  exact ⟨v, l, e, h2⟩
theorem open_partial {b0 : Nat} {v : Value} {d : DataW H} {p : List MemPlace} (hv : Value.okWide Try.prog W .any b0 59 v) (h : DataW.Trod enc Try.prog W 0 (fun _ => true) true 59 v d p) :
    ∃ (m : Int) (vr vo vl : Value) (R : List Int) (O : List Blk) (l : List Chg), v = .agg #[iv m, vr, vo, vl] ∧ Sl W 1 vr R.length (ivs R) ∧ Sl W 8 vo O.length (kvs O) ∧ Sl W 9 vl l.length (cvs l) ∧ -9223372036854775808 ≤ m ∧ m ≤ 9223372036854775807 := by
  have hu : Try.prog.underlying 59 = some (.struct (Try.prog.fieldsOf 59)) := by kernel_rfl
  obtain ⟨cs, rfl⟩ : ∃ cs : Array Value, v = .agg cs := by
    unfold Value.okWide at hv
    rw [hu] at hv
    obtain ⟨cs, h, _⟩ := hv
    exact ⟨cs, h⟩
  obtain ⟨fuel, hf⟩ := h
  have hf' : DataW.trod enc Try.prog W 0 (fun _ => true) true fuel 59 cs.toList = some (d, p) := hf
  obtain ⟨xs, n, _, _, hl, hxl, hi⟩ := DataW.trod_struct hu hf'
  have hc2 : Try.prog.cellsOf 59 = 4 := by kernel_rfl
  have hs4 : (Try.prog.fieldsOf 59).size = 4 := by kernel_rfl
  rw [hc2] at hl
  rw [hs4] at hxl
  have fd : ∀ i, i < 4 → ∃ f, (Try.prog.fieldsOf 59)[i]? = some f ∧ f.offset = i ∧ Try.prog.cellsOf f.type = 1 ∧ f.type = [3, 25, 22, 23].getD i 0 := by
    intro i hi4
    have h1 : ((Try.prog.fieldsOf 59).toList.map fun f => (f.offset, Try.prog.cellsOf f.type, f.type)) = [(0, 1, 3), (1, 1, 25), (2, 1, 22), (3, 1, 23)] := by kernel_rfl
    have h2 := congrArg (fun l => l[i]?) h1
    simp only [List.getElem?_map, Array.getElem?_toList] at h2
    have hlt : i < (Try.prog.fieldsOf 59).size := by omega
    rw [Array.getElem?_eq_getElem hlt] at h2 ⊢
    refine ⟨_, rfl, ?_⟩
    rcases (by omega : i = 0 ∨ i = 1 ∨ i = 2 ∨ i = 3) with rfl | rfl | rfl | rfl <;>
    · simp only [Option.map_some, List.getElem?_cons_zero, List.getElem?_cons_succ, Option.some.injEq, Prod.mk.injEq] at h2
      exact ⟨h2.1, h2.2.1, h2.2.2⟩
  obtain ⟨f0, e0, o0, c0, t0⟩ := fd 0 (by omega)
  obtain ⟨f1, e1, o1, c1, t1⟩ := fd 1 (by omega)
  obtain ⟨f2, e2, o2, c2, t2⟩ := fd 2 (by omega)
  obtain ⟨f3, e3, o3, c3, t3⟩ := fd 3 (by omega)
  have g0 := hi 0 f0 e0
  have g1 := hi 1 f1 e1
  have g2 := hi 2 f2 e2
  have g3 := hi 3 f3 e3
  rw [List.getElem?_eq_getElem (by omega), o0, c0, t0] at g0
  rw [List.getElem?_eq_getElem (by omega), o1, c1, t1] at g1
  rw [List.getElem?_eq_getElem (by omega), o2, c2, t2] at g2
  rw [List.getElem?_eq_getElem (by omega), o3, c3, t3] at g3
  obtain ⟨m, q0, _, hw⟩ := DataW.trod_int Try.underlying3 g0
  obtain ⟨vr, R, q1, s1⟩ := ints_of g1
  obtain ⟨vo, O, q2, s2⟩ := blks_of g2
  obtain ⟨vl, l, q3, s3⟩ := chgs_of g3
  have hm : -9223372036854775808 ≤ m ∧ m ≤ 9223372036854775807 := by
    have hw' : (decide (IntKind.i64.min ≤ m) && decide (m ≤ IntKind.i64.max)) = true := hw
    rw [Bool.and_eq_true] at hw'
    exact ⟨of_decide_eq_true hw'.1, of_decide_eq_true hw'.2⟩
  refine ⟨m, vr, vo, vl, R, O, l, ?_, s1, s2, s3, hm.1, hm.2⟩
  have e5 : cs.toList = [iv m, vr, vo, vl] := by
    match hcs : cs.toList, hl with
    | [a, b, c, d], _ =>
      rw [hcs] at q0 q1 q2 q3
      have r0 : a = iv m := by simpa using q0
      have r1 : b = vr := by simpa using q1
      have r2 : c = vo := by simpa using q2
      have r3 : d = vl := by simpa using q3
      rw [r0, r1, r2, r3]
  rw [show cs = cs.toList.toArray from rfl, e5]
end
end Go.Proofs.Ytnkbnponpknokaa
namespace Go.Proofs.Ytnkbnponpknokaa
set_option maxRecDepth 20000
open Go.RowKit Go.ChangeMaps Go.MapKept
section
def selfR (v : Value) : Option (DataW Value × List MemPlace) := some (.held v, [])
theorem run_zero {P : Program} {t : TypeId} {z : Value} (h : (P.info? t).map (·.zero) = some (some z)) (w : World) : (zeroValue t).run P w = .ok z w := by
  cases hi : P.info? t with
  | none => rw [hi] at h; cases h
  | some i =>
    rw [hi] at h
    have hz : i.zero = some z := by simpa using h
    simp [zeroValue, typeInfo, hi, hz]
def mp (P : Program) (k : TypeId) (b n : Nat) (D : DataW Value) : Asrt where
  foot i := i = b
  ok w := w.ownsMap P k selfR b n D
  loc w w' h hw := by
    obtain ⟨es, clock, hb, r⟩ := hw
    exact ⟨es, clock, (h b rfl).trans hb, r⟩
theorem H.newMap {P : Program} {w0 w : World} {L : List Asrt} (k : TypeId) (h : H w0 L w) : H w0 (mp P k w.heap.size 0 (.map []) :: L) (w.alloc (.map #[] 0)) := by
  have hb : Below w.heap.size w (w.alloc (.map #[] 0)) := below_alloc w _
  have h' := h.below hb
  refine ⟨h'.1, World.ownsMap_made w P k selfR, fun b hb' => ?_, fun C hC b hb' hc => ?_, h'.2⟩
  · have hb'' : b = w.heap.size := hb'
    subst hb''
    exact ⟨h.1.size, by simp⟩
  · have hb'' : b = w.heap.size := hb'
    subst hb''
    have := ((h.2.in_ C hC).2 _ hc).2
    omega
end
def rgA (P : Program) (k : TypeId) (b r c : Nat) (D : DataW Value) (left : Lit → Bool) (cnt : Nat) : Asrt where
  foot i := i = b ∨ i = r
  ok w := w.ranges P k selfR b r c D left cnt
  loc w w' h hw := by
    obtain ⟨es, clock, since, seen, c0, hb, h1, h2, h3, hr, rest⟩ := hw
    exact ⟨es, clock, since, seen, c0, (h b (.inl rfl)).trans hb, h1, h2, h3, (h r (.inr rfl)).trans hr, rest⟩
theorem entry_loc {P : Program} {w w' : World} {r b since c0 clock : Nat} {seen : Array Nat} {es : Array MapEntry} {v : Value} (hr : w.heap[r]? = some (.mapIter (some b) since seen c0)) (hb : w.heap[b]? = some (.map es clock)) (hr' : w'.heap[r]? = some (.mapIter (some b) since seen c0)) (hb' : w'.heap[b]? = some (.map es clock))
    (h : (Instr.entry (.pointer (some ⟨r, 0, none⟩))).run P w = .ok v w) : (Instr.entry (.pointer (some ⟨r, 0, none⟩))).run P w' = .ok v w' := by
  simp only [Instr.entry, getObj, Sem.run_bind, Sem.run, hr, hr', Result.andThen] at h ⊢
  cases hs : seen.back? with
  | none => simp [hs, stuck] at h
  | some st =>
    simp only [hs, Sem.run_bind, Sem.run, hb, hb', Result.andThen] at h ⊢
    by_cases hc : (clock != c0) = true
    · rw [if_pos hc] at h; simp [unsupported] at h
    · rw [if_neg hc] at h ⊢
      cases hf : es.find? (fun x => x.born == st) with
      | none => simp only [hf] at h; simp [unsupported] at h
      | some e => simp only [hf] at h ⊢; simpa using h
def rgE (P : Program) (k : TypeId) (b r c : Nat) (D : DataW Value) (left : Lit → Bool) (cnt : Nat) (key v : Value) : Asrt where
  foot i := i = b ∨ i = r
  ok w := w.ranges P k selfR b r c D left cnt ∧ (Instr.entry (.pointer (some ⟨r, 0, none⟩))).run P w = .ok (.tuple #[key, v]) w
  loc w w' h hw := by
    obtain ⟨hw, hen⟩ := hw
    obtain ⟨es, clock, since, seen, c0, hb, h1, h2, h3, hr, rest⟩ := hw
    exact ⟨⟨es, clock, since, seen, c0, (h b (.inl rfl)).trans hb, h1, h2, h3, (h r (.inr rfl)).trans hr, rest⟩, entry_loc hr hb ((h r (.inr rfl)).trans hr) ((h b (.inl rfl)).trans hb) hen⟩
theorem Imp.rgE {P : Program} {k : TypeId} {b r c cnt : Nat} {D : DataW Value} {left : Lit → Bool} {key v : Value} {L : List Asrt} : Imp (rgE P k b r c D left cnt key v :: L) (rgA P k b r c D left cnt :: L) where
  foot D hD i hi := by
    rcases List.mem_cons.1 hD with rfl | hD
    · exact ⟨_, .head _, hi⟩
    · exact ⟨D, .tail _ hD, hi⟩
  sep := fun ⟨h1, h2, h3, h4⟩ => ⟨h1.1, h2, h3, h4⟩
theorem Imp.rgM {P : Program} {k : TypeId} {b r c cnt : Nat} {D : DataW Value} {left : Lit → Bool} {L : List Asrt} : Imp (rgA P k b r c D left cnt :: L) (mp P k b c D :: L) where
  foot D hD i hi := by
    rcases List.mem_cons.1 hD with rfl | hD
    · exact ⟨_, .head _, .inl hi⟩
    · exact ⟨D, .tail _ hD, hi⟩
  sep := fun ⟨h1, h2, h3, h4⟩ => ⟨h1.owns, fun i hi => h2 i (.inl hi), fun C hC i hi => h3 C hC i (.inl hi), h4⟩
theorem Imp.rgT {P : Program} {k : TypeId} {b r c cnt : Nat} {D : DataW Value} {left : Lit → Bool} {L L1 M : List Asrt} (hT : Take (rgA P k b r c D left cnt) L L1) (h : Imp L1 M) : Imp L (mp P k b c D :: M) :=
  (Imp.perm hT.perm).trans (Imp.rgM.trans (Imp.cons h))
theorem Imp.rgU {P : Program} {k : TypeId} {b r c cnt : Nat} {D : DataW Value} {left : Lit → Bool} {key v : Value} {L L1 M : List Asrt} (hT : Take (Go.Proofs.Ytnkbnponpknokaa.rgE P k b r c D left cnt key v) L L1) (h : Imp L1 M) : Imp L (rgA P k b r c D left cnt :: M) :=
  (Imp.perm hT.perm).trans (Imp.rgE.trans (Imp.cons h))
theorem mp_own {P : Program} {k : TypeId} {b c : Nat} {D : DataW Value} {w0 w : World} {L : List Asrt} (hw : H w0 L w) (hm : mp P k b c D ∈ L) : w.ownsMap P k selfR b c D := (hw.2.in_ _ hm).1
theorem own_below {P : Program} {k : TypeId} {b c : Nat} {D : DataW Value} {w w' : World} (h : w.ownsMap P k selfR b c D) (hb : Below w.heap.size w w') : w'.ownsMap P k selfR b c D :=
  (mp P k b c D).loc w w' (fun i hi => hb.block i (by have := h.lt; have : i = b := hi; omega)) h
section
variable {P : Program} {n : Fr} {w0 : World} {ops : Array Oper} {K : Post} {o : Oper} {rest : List Oper} {E : Env} {L : List Asrt}
theorem WL1.makeMap {t k : TypeId} {d : Nat} (ho : o.op = .makeMap t none) (hd : o.dst = some d)
    (h : ∀ b, WL P n w0 ops K rest (E.set d (.map (some b))) (mp P k b 0 (.map []) :: L)) : WL1 P n w0 ops K o rest E L := fun w hw Q hQ K' hK => by
  unfold Oper.wp execOp
  simp only [ho, Option.map_none, run_makeMap, Sem.run_bind, Sem.run, Sem.run_pure, Result.andThen_ok]
  show K' _ _
  rw [actOf_put, hd]
  exact hK _ _ (h w.heap.size _ (hw.newMap k) Q hQ)
open Go.Maps (Keyed) in
theorem WL1.mapUpdate {t k e : TypeId} {m kx x : Operand} {b c : Nat} {D : DataW Value} {key val : Value} {kl : Lit} {L' : List Asrt} (ho : o.op = .mapUpdate t m kx x) (hd : o.dst = none) (hm : Ev n E m (.map (some b))) (hk : Ev n E kx key) (hx : Ev n E x val)
    (K0 : Keyed P k) (ht : P.underlying t = some (.map k e)) (hc : c < maxLen) (hkey : keyOf P k key = some kl) (hs : Swap (mp P k b c D) (mp P k b (c + 1) (D.put kl (.held val))) L L') (h : WL P n w0 ops K rest E L') : WL1 P n w0 ops K o rest E L := fun w hw Q hQ K' hK => by
  have hown : w.ownsMap P k selfR b c D := (hw.2.in_ _ hs.mem).1
  obtain ⟨w', hrun, hown', es, clock, es', clock', hb, rfl⟩ := hown.store K0 ht hc (d := .held val) (ps := []) hkey rfl
  unfold Ev at hm hk hx
  unfold Oper.wp execOp
  simp only [ho, hm, hk, hx, Sem.run_bind, Sem.run_pure, Result.andThen_ok, hrun]
  show K' _ _
  rw [actOf_put, hd]
  refine hK _ _ (h _ ?_ Q hQ)
  exact hw.swapped hs (by simp [setBlock]) rfl rfl rfl (fun _ h => h) (fun i hi => heap_setBlock_other hb _ hi) hown'
open Go.Maps (Keyed) in
theorem g_look {t k e : TypeId} {m kx : Operand} {b c : Nat} {D : DataW Value} {key z v : Value} {kl : Lit} (hm : mp P k b c D ∈ L) (ho : o.op = .lookup t m kx false) (hx : Ev n E m (.map (some b))) (hk : Ev n E kx key)
    (K0 : Keyed P k) (ht : P.underlying t = some (.map k e)) (hz : ∀ w, (zeroValue e).run P w = .ok z w) (hkey : keyOf P k key = some kl) (hv : D.atKey kl (.held z) = .held v) : Gives P n (H w0 L) o E v := fun w hw => by
  have hown : w.ownsMap P k selfR b c D := (hw.2.in_ _ hm).1
  obtain ⟨u, ps, hrun, hu⟩ := hown.lookup K0 ht (hz w) (zd := .held z) (zp := []) rfl hkey
  rw [hv] at hu
  have : u = v := by simpa [selfR] using congrArg (fun x => x.map Prod.fst) hu
  subst this
  unfold Ev at hx hk; unfold execOp
  simp only [ho, hx, hk, Sem.run_bind, Sem.run_pure, Result.andThen_ok, hrun]
open Go.Maps (Keyed) in
theorem g_lookOkW {C : World → Prop} {t k e : TypeId} {m kx : Operand} {b c : Nat} {D : DataW Value} {key z v : Value} {p : Bool} {kl : Lit} (hm : ∀ w, C w → w.ownsMap P k selfR b c D) (ho : o.op = .lookup t m kx true) (hx : Ev n E m (.map (some b))) (hk : Ev n E kx key)
    (K0 : Keyed P k) (ht : P.underlying t = some (.map k e)) (hz : ∀ w, (zeroValue e).run P w = .ok z w) (hkey : keyOf P k key = some kl) (hv : D.atKey kl (.held z) = .held v) (hp : Maps.has D kl = p) : Gives P n C o E (.tuple #[v, .bool p]) := fun w hw => by
  have hown : w.ownsMap P k selfR b c D := hm w hw
  obtain ⟨u, ps, hrun, hu⟩ := hown.look_ok K0 ht (hz w) (zd := .held z) (zp := []) rfl hkey
  rw [hv] at hu
  rw [hp] at hrun
  have : u = v := by simpa [selfR] using congrArg (fun x => x.map Prod.fst) hu
  subst this
  unfold Ev at hx hk; unfold execOp
  simp only [ho, hx, hk, Sem.run_bind, Sem.run_pure, Result.andThen_ok, hrun]
open Go.Maps (Keyed) in
theorem WL1.range {t k e : TypeId} {m : Operand} {b c d : Nat} {D : DataW Value} {L1 : List Asrt} (ho : o.op = .range t m) (hd : o.dst = some d) (hm : Ev n E m (.map (some b))) (K0 : Keyed P k) (ht : P.underlying t = some (.map k e))
    (h : ∀ r, WL P n w0 ops K rest (E.set d (.pointer (some ⟨r, 0, none⟩))) (rgA P k b r c D (Maps.has D) (Maps.size D) :: L1)) : WL1 P n w0 ops K o rest E (mp P k b c D :: L1) := fun w hw Q hQ K' hK => by
  have hown : w.ownsMap P k selfR b c D := hw.2.1
  have hlt := hown.lt
  obtain ⟨w', hrun, hr, hg, hsz⟩ := hown.range K0 ht
  have hb : Below w.heap.size w w' := ⟨hg.os, hg.tape, hg.output, hg.size, fun i hi => hg.block i hi (by simp)⟩
  have hw' := hw.below hb
  have hH : H w0 (rgA P k b w.heap.size c D (Maps.has D) (Maps.size D) :: L1) w' := by
    refine ⟨hw'.1, hr, fun i hi => ?_, fun C hC i hi hc => ?_, hw'.2.2.2.2⟩
    · rcases hi with rfl | rfl
      · exact hw'.2.2.1 _ rfl
      · exact ⟨hw.1.size, by omega⟩
    · rcases hi with rfl | rfl
      · exact hw'.2.2.2.1 C hC _ rfl hc
      · have := ((hw.2.in_ C (.tail _ hC)).2 _ hc).2
        omega
  unfold Ev at hm
  unfold Oper.wp execOp
  simp only [ho, hm, Sem.run_bind, Sem.run_pure, Result.andThen_ok, hrun]
  show K' _ _
  rw [actOf_put, hd]
  exact hK _ _ (h w.heap.size _ hH Q hQ)
open Go.Maps (Keyed) in
theorem WL1.next {k : TypeId} {it : Operand} {b r c d cnt : Nat} {D : DataW Value} {left : Lit → Bool} {L1 : List Asrt} (ho : o.op = .next it false) (hd : o.dst = some d) (hi : Ev n E it (.pointer (some ⟨r, 0, none⟩))) (K0 : Keyed P k)
    (hDone : cnt = 0 → (∀ kl, left kl = false) → WL P n w0 ops K rest (E.set d (.tuple #[.bool false])) (rgA P k b r c D left cnt :: L1))
    (hMore : ∀ key v kl cnt', keyOf P k key = some kl → left kl = true → (∀ zd, D.atKey kl zd = .held v) → cnt' < cnt → WL P n w0 ops K rest (E.set d (.tuple #[.bool true, key, v])) (rgE P k b r c D (fun x => left x && !x.sameKey kl) cnt' key v :: L1)) :
    WL1 P n w0 ops K o rest E (rgA P k b r c D left cnt :: L1) := fun w hw Q hQ K' hK => by
  have hr : w.ranges P k selfR b r c D left cnt := hw.2.1
  unfold Ev at hi
  unfold Oper.wp execOp
  rcases hr.next K0 o.type with ⟨h0, hl, hrun⟩ | ⟨key, v, kl, y, w', cnt', hkey, hlk, hv, hat, hrun, hrg, hlt, hgr, hsz, hen⟩
  · simp only [ho, hi, Sem.run_bind, Sem.run_pure, Result.andThen_ok, hrun]
    show K' _ _
    rw [actOf_put, hd]
    exact hK _ _ (hDone h0 hl _ hw Q hQ)
  · have hy : y.1 = .held v := by
      have : some (DataW.held v, ([] : List MemPlace)) = some y := hv
      injection this with e
      rw [← e]
    simp only [ho, hi, Sem.run_bind, Sem.run_pure, Result.andThen_ok, hrun]
    show K' _ _
    rw [actOf_put, hd]
    refine hK _ _ (hMore key v kl cnt' hkey hlk (fun zd => by rw [hat, hy]) hlt _ ?_ Q hQ)
    exact hw.swapped .head hsz hgr.os hgr.tape hgr.output (fun _ h => h) (fun i hi => by
      by_cases h1 : i < w.heap.size
      · exact hgr.block i h1 (fun q => hi (.inr (by injection q)))
      · rw [Array.getElem?_eq_none (by omega), Array.getElem?_eq_none (by omega)]) ⟨hrg, hen⟩
theorem g_entry {k : TypeId} {it : Operand} {b r c cnt : Nat} {D : DataW Value} {left : Lit → Bool} {key v : Value} (hm : rgE P k b r c D left cnt key v ∈ L) (ho : o.op = .entry it) (hi : Ev n E it (.pointer (some ⟨r, 0, none⟩))) : Gives P n (H w0 L) o E (.tuple #[key, v]) := fun w hw => by
  have hen := (hw.2.in_ _ hm).1.2
  unfold Ev at hi; unfold execOp
  simp only [ho, hi, Sem.run_bind, Sem.run_pure, Result.andThen_ok, hen]
end
end Go.Proofs.Ytnkbnponpknokaa
namespace Go.Proofs.Ytnkbnponpknokaa
set_option maxRecDepth 20000
open Go.RowKit
def lastC (l : List Chg) (z : Int) : Nat → Option Blk
  | 0 => none
  | i + 1 => if (nth l i).s = z then some (nth l i).b else lastC l z i
def mD (l : List Chg) : Nat → DataW Value
  | 0 => .map []
  | i + 1 => (mD l i).put (.int .i64 (nth l i).s) (.held (kv (nth l i).b))
theorem mD_map (l : List Chg) : ∀ i, Maps.IsMap (mD l i)
  | 0 => ⟨[], rfl⟩
  | i + 1 => (mD_map l i).put _ _
theorem mD_at (l : List Chg) (z : Int) : ∀ i, (mD l i).atKey (.int .i64 z) (.held (kv 0)) = .held (kv ((lastC l z i).getD 0))
  | 0 => rfl
  | i + 1 => by
    unfold mD lastC
    by_cases h : (nth l i).s = z
    · rw [if_pos h, h, Maps.atKey_put_same (mD_map l i) (by simp [WideAt.IsKeyLit])]; rfl
    · rw [if_neg h, Maps.atKey_put_other (fun e => h (by injection e with _ e; exact e.symm)), mD_at l z i]
theorem mD_has (l : List Chg) (z : Int) : ∀ i, Maps.has (mD l i) (.int .i64 z) = (lastC l z i).isSome
  | 0 => rfl
  | i + 1 => by
    unfold mD lastC
    by_cases h : (nth l i).s = z
    · rw [if_pos h, h, Maps.has_put_same (mD_map l i) (by simp [WideAt.IsKeyLit])]; rfl
    · rw [if_neg h, Maps.has_put_other (fun e => h (by injection e with _ e; exact e.symm)), mD_has l z i]
end Go.Proofs.Ytnkbnponpknokaa
namespace Go.Proofs.Ytnkbnponpknokaa
set_option maxRecDepth 20000
open Go.RowKit
attribute [local irreducible] Calls
set_option maxHeartbeats 4000000 in
theorem from_n (v : Value) (l : List Chg) (w : World) (hv : Sl w 9 v l.length (cvs l)) (hl : l.length ≤ 1000000) :
    Calls Try.prog 13 #[v] w fun e w' => ∃ v' M, e = .returned v' ∧ H w M w' ∧ ∃ A c, v' = .slice A l.length c ∧ M = [vec A l.length c 70 9 (cvs l)] := by
  obtain ⟨A, c, rfl, hc, hm, hs⟩ := hv.open_
  refine calls_wc (args := [.slice A l.length c]) [2] [] Try.func13 rfl Try.ntmps13 rfl rfl rfl rfl (H.refl _) ?_
  refine WC.seq fun K hK => ?_
  refine WC.region rfl ?_
  refine wG rfl rfl (g_assign rfl (.mk (v := .slice _ _ _) rfl rfl)) ?_
  refine WL.nil ?_
  (refine hK _ _ ?_; clear hK)
  refine WC.seq fun K hK => ?_
  refine WC.region rfl ?_
  refine wG rfl rfl (g_assign rfl (.mk (v := .slice _ _ _) rfl rfl)) ?_
  refine WL.nil ?_
  (refine hK _ _ ?_; clear hK)
  refine WC.seq fun K hK => ?_
  refine WC.seq fun K hK => ?_
  refine WC.region rfl ?_
  refine wG rfl rfl (g_move rfl (.mk (v := .slice _ _ _) rfl rfl)) ?_
  refine wG rfl rfl (g_len rfl (.mk rfl rfl) rfl) ?_
  refine wG rfl rfl (g_move rfl (.mk (v := .int _ _) rfl rfl)) ?_
  refine WL.nil ?_
  (refine hK _ _ ?_; clear hK)
  refine WC.block ?_
  refine WC.nilvec 70 9 ?_
  
  refine WC.loopF3 (fun (i : Nat) (F : Option Addr) (fc : Nat) => [(8, iv i), (7, iv l.length), (6, .slice A l.length c), (3, .slice F i fc)]) (fun i F fc => [vec F i fc 70 9 (cvs (l.take i))]) (fun i _ _ => i ≤ l.length) (fun i _ _ => l.length - i) 0 none 0 (by repeat (first | exact trivial | refine ⟨rfl, ?_⟩)) (Imp.pick (by repeat (first | exact .head | apply Take.tail)) (Imp.nil _)) (by omega) ?_
  intro i F fc U hi
  by_cases hlt : i < l.length
  · have hgd := chg_row (l := l) (k := i) hlt
    have hnx : cvs (l.take i) ++ (nth l i).cells = cvs (l.take (i + 1)) := by
      have : l.take (i + 1) = l.take i ++ [nth l i] := by rw [List.take_add_one, nth_get hlt]; rfl
      rw [this]; unfold cvs; rw [List.flatMap_append]; simp
    obtain ⟨x, hx⟩ : ∃ x, x = nth l i := ⟨_, rfl⟩
    rw [← hx] at hgd hnx
    have gx : ∀ j u, x.cells[j]? = some u → x.cells[0 + (0 + j)]? = some u := fun j u h => by rw [Nat.zero_add, Nat.zero_add]; exact h
    clear hx
    refine WC.seq fun K hK => ?_
    refine WC.region rfl ?_
    refine wG rfl rfl (g_lt rfl (.mk rfl rfl) (.mk rfl rfl) (decide_eq_true (by omega))) ?_
    refine WL.nil ?_
    (refine hK _ _ ?_; clear hK)
    refine WC.seq fun K hK => ?_
    refine WC.cond_true (.mk rfl rfl) ?_
    refine WC.skip ?_
    (refine hK _ _ ?_; clear hK)
    refine WC.seq fun K hK => ?_
    refine WC.block ?_
    refine WC.seq fun K hK => ?_
    refine WC.region rfl ?_
    refine wG rfl rfl (g_indexAddr (sz := 9) rfl (.mk rfl rfl) (.mk rfl rfl) rfl rfl rfl (by omega) (fun _ _ => sl_some hs (by omega))) ?_
    refine wG rfl rfl (g_loadA rfl (.mk rfl rfl) rfl (sz9r _) (rdr_sl hs (by omega) hgd)) ?_
    refine WL.want rfl (WL1.alloc rfl rfl rfl rfl (fun b5 => ?_))
    refine WL.want rfl (WL1.storeAll rfl rfl (.mk rfl rfl) (.mk rfl rfl) (sz9r _) (Chg.one _) (by rw [Chg.len]; rfl) .head ?_)
    refine WL.nil ?_
    (refine hK _ _ ?_; clear hK)
    refine WC.region rfl ?_
    refine wG rfl rfl (g_move rfl (.mk (v := .slice _ _ _) rfl rfl)) ?_
    refine wG rfl rfl (g_loadA rfl (.mk rfl rfl) rfl (sz9r _) (rdr_pt (cs := x.cells) (by repeat (first | exact .head _ | apply List.Mem.tail)) gx)) ?_
    refine WL.want rfl (WL1.lit elC rfl rfl rfl (.cons (.mk (v := .agg _) rfl rfl) .nil) rfl (by intro v hv; rw [List.mem_singleton] at hv; subst hv; show (Chg.cells _).toArray.size = 9; rw [List.size_toArray, Chg.len]) (List.append_nil _) rfl (fun b14 => ?_))
    refine WL.want rfl (WL1.append elC rfl rfl (.mk rfl rfl) (.mk rfl rfl) (.tail (.tail (.head))) (fun w hw => Sl.of_vec hw (.head _)) (Chg.one _) (by unfold maxLen; omega) (by omega) (fun A15 c15 => ?_))
    refine wG rfl rfl (g_assign rfl (.mk (v := .slice _ _ _) rfl rfl)) ?_
    refine WL.nil ?_
    (refine hK _ _ ?_; clear hK)
    refine WC.region rfl ?_
    refine wG rfl rfl (g_add rfl (.mk rfl rfl) (.mk rfl rfl) (IntWalk.i64_in _ (by omega))) ?_
    refine wG rfl rfl (g_move rfl (.mk (v := .int _ _) rfl rfl)) ?_
    refine WL.nil ?_
    exact ⟨i + 1, A15, c15, (by repeat (first | exact trivial | refine ⟨rfl, ?_⟩)), by rw [← hnx]; exact Imp.pick (by repeat (first | exact .head | apply Take.tail)) (Imp.nil _), by omega, by omega⟩
  · obtain rfl : i = l.length := by omega
    refine WC.seq fun K hK => ?_
    refine WC.region rfl ?_
    refine wG rfl rfl (g_lt rfl (.mk rfl rfl) (.mk rfl rfl) (decide_eq_false (by omega))) ?_
    refine WL.nil ?_
    (refine hK _ _ ?_; clear hK)
    refine WC.seq fun K hK => ?_
    refine WC.cond_false (.mk rfl rfl) ?_
    refine WC.exit ?_
    (clear hK; refine hK _ _ ?_; clear hK)
    refine WC.seq fun K hK => ?_
    refine WC.region rfl ?_
    refine wG rfl rfl (g_move rfl (.mk (v := .slice _ _ _) rfl rfl)) ?_
    refine wG rfl rfl (g_assign rfl (.mk (v := .slice _ _ _) rfl rfl)) ?_
    refine WL.nil ?_
    (refine hK _ _ ?_; clear hK)
    refine WC.ret ?_
    exact fun w' hw' => ⟨_, _, rfl, hw', F, fc, rfl, by rw [List.take_length]⟩
set_option maxHeartbeats 4000000 in
theorem proper_e (v : Value) (l : List Chg) (m : Int) (w : World) (hm0 : 0 ≤ m ∧ m ≤ 1000) (hv : Sl w 9 v l.length (cvs l)) :
    Calls Try.prog 39 #[iv m, v] w fun e w' => e = .returned (.bool (okC m l)) ∧ Below w.heap.size w w' := by
  obtain ⟨A, c, rfl, hc, hm, hs⟩ := hv.open_
  unfold maxLen at hm
  have hsub : IntKind.i64.wrap (m - 3) = m - 3 := IntWalk.i64_in _ (by omega)
  refine calls_wc (args := [iv m, .slice A l.length c]) [4] [] Try.func39 rfl Try.ntmps39 rfl rfl rfl rfl (H.refl _) ?_
  refine WC.seq fun K hK => ?_
  refine WC.region rfl ?_
  refine wG rfl rfl (g_assign rfl (.mk (v := .bool _) rfl rfl)) ?_
  refine WL.nil ?_
  (refine hK _ _ ?_; clear hK)
  refine WC.seq fun K hK => ?_
  refine WC.seq fun K hK => ?_
  refine WC.region rfl ?_
  refine wG rfl rfl (g_assign rfl (.mk (v := .int _ _) rfl rfl)) ?_
  refine WL.nil ?_
  (refine hK _ _ ?_; clear hK)
  refine WC.block ?_
  refine WC.loopF (fun k : Nat => [(5, iv k), (0, iv m), (1, .slice A l.length c)]) (fun _ => []) (fun k => k ≤ l.length ∧ ∀ j, j < k → badC m (nth l j) = false) (fun k => l.length - k) 0 (by repeat (first | exact trivial | refine ⟨rfl, ?_⟩)) (Imp.nil _) ⟨by omega, fun j hj => absurd hj (Nat.not_lt_zero j)⟩ ?_
  rintro k U ⟨hk, hq⟩
  by_cases hlt : k < l.length
  · have hgs : (cvs l)[k * 9 + 0]? = some (iv (nth l k).s) := chg_row (l := l) (k := k) hlt 0 _ rfl
    obtain ⟨z, hz⟩ : ∃ z, z = (nth l k).s := ⟨_, rfl⟩
    have hbz : badC m (nth l k) = decide (z < 0 ∨ m - 3 ≤ z) := by rw [hz]; rfl
    rw [← hz] at hgs
    clear hz
    by_cases q1 : z < 0
    · have hb : badC m (nth l k) = true := by rw [hbz]; exact decide_eq_true (.inl q1)
      refine WC.seq fun K hK => ?_
      refine WC.seq fun K hK => ?_
      refine WC.region rfl ?_
      refine wG rfl rfl (g_move rfl (.mk (v := .int _ _) rfl rfl)) ?_
      refine wG rfl rfl (g_move rfl (.mk (v := .slice _ _ _) rfl rfl)) ?_
      refine wG rfl rfl (g_len rfl (.mk rfl rfl) rfl) ?_
      refine wG rfl rfl (g_lt rfl (.mk rfl rfl) (.mk rfl rfl) (decide_eq_true (by omega))) ?_
      refine WL.nil ?_
      (refine hK _ _ ?_; clear hK)
      refine WC.cond_true (.mk rfl rfl) ?_
      refine WC.skip ?_
      (refine hK _ _ ?_; clear hK)
      refine WC.seq fun K hK => ?_
      refine WC.block ?_
      refine WC.seq fun K hK => ?_
      refine WC.region rfl ?_
      refine wG rfl rfl (g_move rfl (.mk (v := .slice _ _ _) rfl rfl)) ?_
      refine wG rfl rfl (g_move rfl (.mk (v := .int _ _) rfl rfl)) ?_
      refine wG rfl rfl (g_indexAddr (sz := 9) rfl (.mk rfl rfl) (.mk rfl rfl) rfl rfl rfl (by omega) (fun _ _ => sl_some hs (by omega))) ?_
      refine wG rfl rfl (g_fieldAddr (off := 0) rfl (.mk rfl rfl) rfl (fun _ _ => sl_some hs (by omega))) ?_
      refine wG rfl rfl (g_load rfl (.mk rfl rfl) rfl (rd_sl hs hgs)) ?_
      refine wG rfl rfl (g_lt rfl (.mk rfl rfl) (.mk rfl rfl) (decide_eq_true (by omega))) ?_
      refine wG rfl rfl (g_move rfl (.mk (v := .bool _) rfl rfl)) ?_
      refine WL.skipG rfl rfl rfl rfl rfl rfl ?_
      refine WL.skipG rfl rfl rfl rfl rfl rfl ?_
      refine WL.skipG rfl rfl rfl rfl rfl rfl ?_
      refine WL.skipG rfl rfl rfl rfl rfl rfl ?_
      refine WL.skipG rfl rfl rfl rfl rfl rfl ?_
      refine WL.skipG rfl rfl rfl rfl rfl rfl ?_
      refine WL.skipG rfl rfl rfl rfl rfl rfl ?_
      refine WL.skipG rfl rfl rfl rfl rfl rfl ?_
      refine wG rfl rfl (g_pickT rfl (.mk rfl rfl) (.mk (v := .bool _) rfl rfl)) ?_
      refine WL.nil ?_
      (refine hK _ _ ?_; clear hK)
      refine WC.cond_true (.mk rfl rfl) ?_
      refine WC.seq fun K hK => ?_
      refine WC.region rfl ?_
      refine wG rfl rfl (g_assign rfl (.mk (v := .bool _) rfl rfl)) ?_
      refine WL.nil ?_
      (refine hK _ _ ?_; clear hK)
      refine WC.ret ?_
      exact fun w' hw' => ⟨by unfold okC; rw [gfnd_eq (p := fun k => badC m (nth l k)) hlt hb hq]; rfl, hw'.1⟩
    · by_cases q2 : m - 3 ≤ z
      · have hb : badC m (nth l k) = true := by rw [hbz]; exact decide_eq_true (.inr q2)
        refine WC.seq fun K hK => ?_
        refine WC.seq fun K hK => ?_
        refine WC.region rfl ?_
        refine wG rfl rfl (g_move rfl (.mk (v := .int _ _) rfl rfl)) ?_
        refine wG rfl rfl (g_move rfl (.mk (v := .slice _ _ _) rfl rfl)) ?_
        refine wG rfl rfl (g_len rfl (.mk rfl rfl) rfl) ?_
        refine wG rfl rfl (g_lt rfl (.mk rfl rfl) (.mk rfl rfl) (decide_eq_true (by omega))) ?_
        refine WL.nil ?_
        (refine hK _ _ ?_; clear hK)
        refine WC.cond_true (.mk rfl rfl) ?_
        refine WC.skip ?_
        (refine hK _ _ ?_; clear hK)
        refine WC.seq fun K hK => ?_
        refine WC.block ?_
        refine WC.seq fun K hK => ?_
        refine WC.region rfl ?_
        refine wG rfl rfl (g_move rfl (.mk (v := .slice _ _ _) rfl rfl)) ?_
        refine wG rfl rfl (g_move rfl (.mk (v := .int _ _) rfl rfl)) ?_
        refine wG rfl rfl (g_indexAddr (sz := 9) rfl (.mk rfl rfl) (.mk rfl rfl) rfl rfl rfl (by omega) (fun _ _ => sl_some hs (by omega))) ?_
        refine wG rfl rfl (g_fieldAddr (off := 0) rfl (.mk rfl rfl) rfl (fun _ _ => sl_some hs (by omega))) ?_
        refine wG rfl rfl (g_load rfl (.mk rfl rfl) rfl (rd_sl hs hgs)) ?_
        refine wG rfl rfl (g_lt rfl (.mk rfl rfl) (.mk rfl rfl) (decide_eq_false (by omega))) ?_
        refine wG rfl rfl (g_move rfl (.mk (v := .bool _) rfl rfl)) ?_
        refine WL.wantG rfl rfl rfl rfl (WL1.give rfl (g_move rfl (.mk (v := .slice _ _ _) rfl rfl)) ?_)
        refine WL.wantG rfl rfl rfl rfl (WL1.give rfl (g_move rfl (.mk (v := .int _ _) rfl rfl)) ?_)
        refine WL.wantG rfl rfl rfl rfl (WL1.give rfl (g_indexAddr (sz := 9) rfl (.mk rfl rfl) (.mk rfl rfl) rfl rfl rfl (by omega) (fun _ _ => sl_some hs (by omega))) ?_)
        refine WL.wantG rfl rfl rfl rfl (WL1.give rfl (g_fieldAddr (off := 0) rfl (.mk rfl rfl) rfl (fun _ _ => sl_some hs (by omega))) ?_)
        refine WL.wantG rfl rfl rfl rfl (WL1.give rfl (g_load rfl (.mk rfl rfl) rfl (rd_sl hs hgs)) ?_)
        refine WL.wantG rfl rfl rfl rfl (WL1.give rfl (g_move rfl (.mk (v := .int _ _) rfl rfl)) ?_)
        refine WL.wantG rfl rfl rfl rfl (WL1.give rfl (g_sub rfl (.mk rfl rfl) (.mk rfl rfl) hsub) ?_)
        refine WL.wantG rfl rfl rfl rfl (WL1.give rfl (g_ge rfl (.mk rfl rfl) (.mk rfl rfl) (decide_eq_true (by omega))) ?_)
        refine wG rfl rfl (g_pickF rfl (.mk rfl rfl) (.mk (v := .bool _) rfl rfl)) ?_
        refine WL.nil ?_
        (refine hK _ _ ?_; clear hK)
        refine WC.cond_true (.mk rfl rfl) ?_
        refine WC.seq fun K hK => ?_
        refine WC.region rfl ?_
        refine wG rfl rfl (g_assign rfl (.mk (v := .bool _) rfl rfl)) ?_
        refine WL.nil ?_
        (refine hK _ _ ?_; clear hK)
        refine WC.ret ?_
        exact fun w' hw' => ⟨by unfold okC; rw [gfnd_eq (p := fun k => badC m (nth l k)) hlt hb hq]; rfl, hw'.1⟩
      · have hb : badC m (nth l k) = false := by rw [hbz]; exact decide_eq_false (by omega)
        refine WC.seq fun K hK => ?_
        refine WC.seq fun K hK => ?_
        refine WC.region rfl ?_
        refine wG rfl rfl (g_move rfl (.mk (v := .int _ _) rfl rfl)) ?_
        refine wG rfl rfl (g_move rfl (.mk (v := .slice _ _ _) rfl rfl)) ?_
        refine wG rfl rfl (g_len rfl (.mk rfl rfl) rfl) ?_
        refine wG rfl rfl (g_lt rfl (.mk rfl rfl) (.mk rfl rfl) (decide_eq_true (by omega))) ?_
        refine WL.nil ?_
        (refine hK _ _ ?_; clear hK)
        refine WC.cond_true (.mk rfl rfl) ?_
        refine WC.skip ?_
        (refine hK _ _ ?_; clear hK)
        refine WC.seq fun K hK => ?_
        refine WC.block ?_
        refine WC.seq fun K hK => ?_
        refine WC.region rfl ?_
        refine wG rfl rfl (g_move rfl (.mk (v := .slice _ _ _) rfl rfl)) ?_
        refine wG rfl rfl (g_move rfl (.mk (v := .int _ _) rfl rfl)) ?_
        refine wG rfl rfl (g_indexAddr (sz := 9) rfl (.mk rfl rfl) (.mk rfl rfl) rfl rfl rfl (by omega) (fun _ _ => sl_some hs (by omega))) ?_
        refine wG rfl rfl (g_fieldAddr (off := 0) rfl (.mk rfl rfl) rfl (fun _ _ => sl_some hs (by omega))) ?_
        refine wG rfl rfl (g_load rfl (.mk rfl rfl) rfl (rd_sl hs hgs)) ?_
        refine wG rfl rfl (g_lt rfl (.mk rfl rfl) (.mk rfl rfl) (decide_eq_false (by omega))) ?_
        refine wG rfl rfl (g_move rfl (.mk (v := .bool _) rfl rfl)) ?_
        refine WL.wantG rfl rfl rfl rfl (WL1.give rfl (g_move rfl (.mk (v := .slice _ _ _) rfl rfl)) ?_)
        refine WL.wantG rfl rfl rfl rfl (WL1.give rfl (g_move rfl (.mk (v := .int _ _) rfl rfl)) ?_)
        refine WL.wantG rfl rfl rfl rfl (WL1.give rfl (g_indexAddr (sz := 9) rfl (.mk rfl rfl) (.mk rfl rfl) rfl rfl rfl (by omega) (fun _ _ => sl_some hs (by omega))) ?_)
        refine WL.wantG rfl rfl rfl rfl (WL1.give rfl (g_fieldAddr (off := 0) rfl (.mk rfl rfl) rfl (fun _ _ => sl_some hs (by omega))) ?_)
        refine WL.wantG rfl rfl rfl rfl (WL1.give rfl (g_load rfl (.mk rfl rfl) rfl (rd_sl hs hgs)) ?_)
        refine WL.wantG rfl rfl rfl rfl (WL1.give rfl (g_move rfl (.mk (v := .int _ _) rfl rfl)) ?_)
        refine WL.wantG rfl rfl rfl rfl (WL1.give rfl (g_sub rfl (.mk rfl rfl) (.mk rfl rfl) hsub) ?_)
        refine WL.wantG rfl rfl rfl rfl (WL1.give rfl (g_ge rfl (.mk rfl rfl) (.mk rfl rfl) (decide_eq_false (by omega))) ?_)
        refine wG rfl rfl (g_pickF rfl (.mk rfl rfl) (.mk (v := .bool _) rfl rfl)) ?_
        refine WL.nil ?_
        (refine hK _ _ ?_; clear hK)
        refine WC.cond_false (.mk rfl rfl) ?_
        refine WC.skip ?_
        (refine hK _ _ ?_; clear hK)
        refine WC.region rfl ?_
        refine wG rfl rfl (g_move rfl (.mk (v := .int _ _) rfl rfl)) ?_
        refine wG rfl rfl (g_add rfl (.mk rfl rfl) (.mk rfl rfl) (IntWalk.i64_in _ (by omega))) ?_
        refine wG rfl rfl (g_assign rfl (.mk (v := .int _ _) rfl rfl)) ?_
        refine WL.nil ?_
        refine ⟨k + 1, (by repeat (first | exact trivial | refine ⟨rfl, ?_⟩)), .refl _, ⟨by omega, fun j hj => ?_⟩, by omega⟩
        by_cases e : j = k
        · rw [e]; exact hb
        · exact hq j (by omega)
  · obtain rfl : k = l.length := by omega
    refine WC.seq fun K hK => ?_
    refine WC.seq fun K hK => ?_
    refine WC.region rfl ?_
    refine wG rfl rfl (g_move rfl (.mk (v := .int _ _) rfl rfl)) ?_
    refine wG rfl rfl (g_move rfl (.mk (v := .slice _ _ _) rfl rfl)) ?_
    refine wG rfl rfl (g_len rfl (.mk rfl rfl) rfl) ?_
    refine wG rfl rfl (g_lt rfl (.mk rfl rfl) (.mk rfl rfl) (decide_eq_false (by omega))) ?_
    refine WL.nil ?_
    (refine hK _ _ ?_; clear hK)
    refine WC.cond_false (.mk rfl rfl) ?_
    refine WC.exit ?_
    (clear hK; refine hK _ _ ?_; clear hK)
    refine WC.seq fun K hK => ?_
    refine WC.region rfl ?_
    refine wG rfl rfl (g_assign rfl (.mk (v := .bool _) rfl rfl)) ?_
    refine WL.nil ?_
    (refine hK _ _ ?_; clear hK)
    refine WC.ret ?_
    exact fun w' hw' => ⟨by unfold okC; rw [gfnd_all hq]; rfl, hw'.1⟩
set_option maxHeartbeats 1000000 in
theorem rencode_n (v : Value) (ds : List Blk) (w : World) (hv : Sl w 8 v ds.length (kvs ds)) (h1 : 1 ≤ ds.length) (h2 : ds.length ≤ 13) : Calls Try.prog 40 #[v] w fun e w' => ∃ v' M, e = .returned v' ∧ H w M w' ∧
    ∃ b, v' = .tuple #[.slice (some ⟨b, 0, none⟩) 3 3, iv 0] ∧ M = [vec (some ⟨b, 0, none⟩) 3 3 38 8 (kvs (enc ds))] := by
  obtain ⟨A, c, rfl, hc, hm, hs⟩ := hv.open_
  refine calls_wc (args := [.slice A ds.length c]) [2, 3] [] Try.func40 rfl Try.ntmps40 rfl rfl rfl rfl (H.refl _) ?_
  refine WC.seq fun K hK => ?_
  refine WC.region rfl ?_
  refine wG rfl rfl (g_assign rfl (.mk (v := .slice _ _ _) rfl rfl)) ?_
  refine wG rfl rfl (g_assign rfl (.mk (v := .int _ _) rfl rfl)) ?_
  refine WL.nil ?_
  (refine hK _ _ ?_; clear hK)
  refine WC.seq fun K hK => ?_
  refine WC.seq fun K hK => ?_
  refine WC.region rfl ?_
  refine wG rfl rfl (g_move rfl (.mk (v := .slice _ _ _) rfl rfl)) ?_
  refine wG rfl rfl (g_len rfl (.mk rfl rfl) rfl) ?_
  refine wG rfl rfl (g_lt rfl (.mk rfl rfl) (.mk rfl rfl) (decide_eq_false (by omega))) ?_
  refine wG rfl rfl (g_move rfl (.mk (v := .bool _) rfl rfl)) ?_
  refine WL.wantG rfl rfl rfl rfl (WL1.give rfl (g_move rfl (.mk (v := .slice _ _ _) rfl rfl)) ?_)
  refine WL.wantG rfl rfl rfl rfl (WL1.give rfl (g_len rfl (.mk rfl rfl) rfl) ?_)
  refine WL.wantG rfl rfl rfl rfl (WL1.give rfl (g_gt rfl (.mk rfl rfl) (.mk rfl rfl) (decide_eq_false (by omega))) ?_)
  refine wG rfl rfl (g_pickF rfl (.mk rfl rfl) (.mk (v := .bool _) rfl rfl)) ?_
  refine WL.nil ?_
  (refine hK _ _ ?_; clear hK)
  refine WC.cond_false (.mk rfl rfl) ?_
  refine WC.skip ?_
  (refine hK _ _ ?_; clear hK)
  refine WC.seq fun K hK => ?_
  refine WC.region rfl ?_
  refine wG rfl rfl (g_move rfl (.mk (v := .slice _ _ _) rfl rfl)) ?_
  (refine WL.want rfl (WL1.callN rfl rfl rfl (.cons (.mk (v := .slice _ _ _) rfl rfl) .nil) (fun w hw => parity_n _ ds w (hs.below hw.1) (by omega)) ?_); rintro _ _ ⟨bp, rfl, rfl⟩)
  refine wG rfl rfl (g_assign rfl (.mk (v := .slice _ _ _) rfl rfl)) ?_
  refine wG rfl rfl (g_assign rfl (.mk (v := .int _ _) rfl rfl)) ?_
  refine WL.nil ?_
  (refine hK _ _ ?_; clear hK)
  refine WC.ret ?_
  exact fun w' hw' => ⟨_, _, rfl, hw', bp, rfl, rfl⟩
end Go.Proofs.Ytnkbnponpknokaa
namespace Go.Proofs.Ytnkbnponpknokaa
set_option maxRecDepth 20000
open Go.RowKit
attribute [local irreducible] Calls
theorem enc3 (ds : List Blk) : (enc ds).length = 3 := by simp [enc]
def cstp (ds : List Blk) (x : Chg) : List Blk := ds.set x.s.toNat x.b
def rvD (ds : List Blk) : List Chg → List Blk
  | [] => ds
  | x :: t => cstp (rvD ds t) x
def Dst (l : List Chg) : Prop := l.Pairwise fun x y => x.s.toNat ≠ y.s.toNat
def bG (ds : List Blk) (l : List Chg) (i : Nat) : List Blk := rvD ds (l.drop i) ++ enc (rvD ds (l.drop i))
def sn (m : Nat) (l : List Chg) : Nat → List Bool
  | 0 => List.replicate m false
  | i + 1 => (sn m l i).set (nth l i).s.toNat true
end Go.Proofs.Ytnkbnponpknokaa
namespace Go.Proofs.Ytnkbnponpknokaa
set_option maxRecDepth 20000
open Go.RowKit
structure Row where
  A : Option Addr
  c : Nat
  l : List G
instance : Inhabited Row := ⟨⟨none, 0, []⟩⟩
def Row.v (r : Row) : Value := .slice r.A r.l.length r.c
def Row.own (r : Row) : Asrt := vec r.A r.l.length r.c 5 1 (bvs r.l)
def els (rs : List Row) : List (List G) := rs.map Row.l
def MatAt (w : World) (v : Value) (rs : List Row) : Prop := Sl w 1 v rs.length (rs.map Row.v) ∧ ∀ r ∈ rs, Sl w 1 r.v r.l.length (bvs r.l)
theorem MatAt.below {w w' : World} {v : Value} {rs : List Row} (h : MatAt w v rs) (hb : Below w.heap.size w w') : MatAt w' v rs := ⟨h.1.below hb, fun r hr => (h.2 r hr).below hb⟩
theorem nth_mem {α : Type} [Inhabited α] {l : List α} {k : Nat} (h : k < l.length) : nth l k ∈ l := by rw [nth_eq h]; exact List.getElem_mem h
theorem MatAt.row {w : World} {v : Value} {rs : List Row} (h : MatAt w v rs) {k : Nat} (hk : k < rs.length) : Sl w 1 (nth rs k).v (nth rs k).l.length (bvs (nth rs k).l) := h.2 _ (nth_mem hk)
theorem nth_map {α β : Type} [Inhabited α] [Inhabited β] (f : α → β) {l : List α} {k : Nat} (h : k < l.length) : nth (l.map f) k = f (nth l k) := by
  rw [nth_eq (by simpa using h), nth_eq h]; simp
def matL (A : Option Addr) (c : Nat) (rs : List Row) : List Asrt := vec A rs.length c 111 1 (rs.map Row.v) :: rs.map Row.own
theorem elR : Elem Try.prog 121 111 (.slice none 0 0) 1 24 := ⟨by kernel_rfl, by kernel_rfl, rfl, by decide⟩
theorem bvs_one (l : List G) : ∀ u ∈ bvs l, u.oneCell' = true := fun u hu => by
  obtain ⟨x, _, rfl⟩ := List.mem_map.1 hu
  rfl
theorem rowv_one (rs : List Row) : ∀ u ∈ rs.map Row.v, u.oneCell' = true := fun u hu => by
  obtain ⟨x, _, rfl⟩ := List.mem_map.1 hu
  rfl
theorem madeU (n : Nat) : (madeCells (Value.int .u8 0).cells (n * 1)).toList = bvs (List.replicate n 0) := by
  rw [show (Value.int .u8 0).cells = #[.int .u8 0] from rfl, made_one, bvs, List.map_replicate]
  rfl
end Go.Proofs.Ytnkbnponpknokaa
namespace Go.Proofs.Ytnkbnponpknokaa
set_option maxRecDepth 20000
open Go.RowKit
end Go.Proofs.Ytnkbnponpknokaa
namespace Go.Proofs.Ytnkbnponpknokaa
set_option maxRecDepth 20000
open Go.RowKit
attribute [local irreducible] Calls
def coefs (n : Nat) (j : Nat) : List G := (List.range n).map fun i => gpow 2 (i * j)
theorem coefs_len (n j : Nat) : (coefs n j).length = n := by simp [coefs]
def matx (n : Nat) : List (List G) := (List.range 3).map (coefs n)
def rowP (n j i : Nat) : List G := (List.range n).map fun q => if q < i then gpow 2 (q * j) else 0
theorem rowP_len (n j i : Nat) : (rowP n j i).length = n := by simp [rowP]
theorem rowP_zero (n j : Nat) : List.replicate n (0 : G) = rowP n j 0 := by
  refine list_ext_nth (by simp [rowP]) fun k hk => ?_
  have hk' : k < n := by simpa using hk
  rw [rowP, nth_range _ hk', if_neg (by omega), nth_eq hk]
  simp
theorem rowP_set {n j i : Nat} (h : i < n) : (rowP n j i).set i (gpow 2 (i * j)) = rowP n j (i + 1) :=
  list_ext_nth (by rw [List.length_set, rowP_len, rowP_len]) fun q hq => by
    have hq3 : q < n := by rw [List.length_set, rowP_len] at hq; exact hq
    rw [nth_set_eq (by rw [rowP_len]; exact h), rowP, rowP, nth_range _ hq3, nth_range _ hq3]
    by_cases e : q = i
    · subst e; rw [if_pos rfl, if_pos (by omega)]
    · rw [if_neg e]
      by_cases e2 : q < i
      · rw [if_pos e2, if_pos (by omega)]
      · rw [if_neg e2, if_neg (by omega)]
theorem row_put {n j i q : Nat} {v : Value} (h : i < n) (hq : q = i) (hv : v = bv (gpow 2 (i * j))) : (bvs (rowP n j i)).set q v = bvs (rowP n j (i + 1)) := by rw [hq, hv, bvs_set, rowP_set h]
theorem rowP_all (n j : Nat) : rowP n j n = coefs n j := List.map_congr_left fun q hq => if_pos (by simpa using hq)
set_option maxHeartbeats 1000000 in
theorem matrix_n (n : Nat) (w : World) (h1 : 1 ≤ n) (h2 : n ≤ 13) : Calls Try.prog 98 #[iv n] w fun e w' => ∃ v' M, e = .returned v' ∧ H w M w' ∧
    ∃ A c rs, v' = .tuple #[.slice A 3 c, iv 0] ∧ M = matL A c rs ∧ els rs = matx n ∧ rs.length = 3 := by
  refine calls_wc (args := [iv n]) [2, 3] [] Try.func98 rfl Try.ntmps98 rfl rfl rfl rfl (H.refl w) ?_
  refine WC.seq fun K hK => ?_
  refine WC.region rfl ?_
  refine wG rfl rfl (g_assign rfl (.mk (v := .slice _ _ _) rfl rfl)) ?_
  refine wG rfl rfl (g_assign rfl (.mk (v := .int _ _) rfl rfl)) ?_
  refine WL.nil ?_
  (refine hK _ _ ?_; clear hK)
  refine WC.seq fun K hK => ?_
  refine WC.seq fun K hK => ?_
  refine WC.region rfl ?_
  refine wG rfl rfl (g_move rfl (.mk (v := .int _ _) rfl rfl)) ?_
  refine wG rfl rfl (g_lt rfl (.mk rfl rfl) (.mk rfl rfl) (decide_eq_false (by omega))) ?_
  refine wG rfl rfl (g_move rfl (.mk (v := .bool _) rfl rfl)) ?_
  refine WL.wantG rfl rfl rfl rfl (WL1.give rfl (g_move rfl (.mk (v := .int _ _) rfl rfl)) ?_)
  refine WL.wantG rfl rfl rfl rfl (WL1.give rfl (g_gt rfl (.mk rfl rfl) (.mk rfl rfl) (decide_eq_false (by omega))) ?_)
  refine wG rfl rfl (g_pickF rfl (.mk rfl rfl) (.mk (v := .bool _) rfl rfl)) ?_
  refine WL.nil ?_
  (refine hK _ _ ?_; clear hK)
  refine WC.cond_false (.mk rfl rfl) ?_
  refine WC.skip ?_
  (refine hK _ _ ?_; clear hK)
  refine WC.seq fun K hK => ?_
  refine WC.region rfl ?_
  refine wG rfl rfl (g_assign rfl (.mk (v := .slice _ _ _) rfl rfl)) ?_
  refine WL.nil ?_
  (refine hK _ _ ?_; clear hK)
  refine WC.seq fun K hK => ?_
  refine WC.seq fun K hK => ?_
  refine WC.region rfl ?_
  refine wG rfl rfl (g_move rfl (.mk (v := .int _ _) rfl rfl)) ?_
  refine WL.nil ?_
  (refine hK _ _ ?_; clear hK)
  refine WC.block ?_
  refine WC.nilvec 111 1 ?_
  refine WC.loop4 (137438937328) (fun (j : Nat) (B : Option Addr) (cB : Nat) (rs : List Row) => [(4, .slice B j cB), (14, iv j)]) (fun j B cB rs => vec B j cB 111 1 (rs.map Row.v) :: rs.reverse.map Row.own) (fun j _ _ rs => j ≤ 3 ∧ els rs = (List.range j).map (coefs n)) (fun j _ _ _ => 3 - j) 0 none 0 [] ⟨rfl, rfl, trivial⟩ (.refl _) ⟨by omega, rfl⟩ ?_
  rintro j B cB rs U ⟨hj, hrs⟩
  have hrl : rs.length = j := by have := congrArg List.length hrs; simpa [els] using this
  by_cases hlt : j < 3
  · refine WC.seq fun K hK => ?_
    refine WC.region rfl ?_
    refine wG rfl rfl (g_lt rfl (.mk rfl rfl) (.mk rfl rfl) (decide_eq_true (by omega))) ?_
    refine WL.nil ?_
    (refine hK _ _ ?_; clear hK)
    refine WC.seq fun K hK => ?_
    refine WC.cond_true (.mk rfl rfl) ?_
    refine WC.skip ?_
    (refine hK _ _ ?_; clear hK)
    refine WC.seq fun K hK => ?_
    refine WC.block ?_
    refine WC.seq fun K hK => ?_
    refine WC.region rfl ?_
    refine wG rfl rfl (g_move rfl (.mk (v := .int _ _) rfl rfl)) ?_
    refine wG rfl rfl (g_assign rfl (.mk (v := .int _ _) rfl rfl)) ?_
    refine WL.nil ?_
    (refine hK _ _ ?_; clear hK)
    refine WC.seq fun K hK => ?_
    refine WC.region rfl ?_
    refine wG rfl rfl (g_move rfl (.mk (v := .int _ _) rfl rfl)) ?_
    refine WL.want rfl (WL1.make elB rfl rfl (.mk rfl rfl) (.mk rfl rfl) rfl rfl (by omega) (by unfold maxLen; omega) (fun b18 => ?_))
    refine wG rfl rfl (g_assign rfl (.mk (v := .slice _ _ _) rfl rfl)) ?_
    refine WL.nil ?_
    (refine hK _ _ ?_; clear hK)
    refine WC.seq fun K hK => ?_
    refine WC.seq fun K hK => ?_
    refine WC.region rfl ?_
    refine wG rfl rfl (g_move rfl (.mk (v := .slice _ _ _) rfl rfl)) ?_
    refine wG rfl rfl (g_len rfl (.mk rfl rfl) rfl) ?_
    refine wG rfl rfl (g_move rfl (.mk (v := .int _ _) rfl rfl)) ?_
    refine WL.nil ?_
    (refine hK _ _ ?_; clear hK)
    refine WC.block ?_
    refine WC.loop (4292870272) (fun i : Nat => [(21, iv i)]) (fun i => vec (some ⟨b18, 0, none⟩) n n 5 1 (bvs (rowP n j i)) :: vec B j cB 111 1 (rs.map Row.v) :: rs.reverse.map Row.own) (fun i => i ≤ n) (fun i => n - i) 0 ⟨rfl, trivial⟩ (by rw [← rowP_zero, ← madeU]; exact .refl _) (by omega) ?_
    intro i V hi
    have hrp := rowP_len n j i
    by_cases hlt2 : i < n
    · have hji : i * j ≤ 39 := Nat.le_trans (Nat.mul_le_mul (by omega : i ≤ 13) (by omega : j ≤ 3)) (by omega)
      have hmul : IntKind.i64.wrap ((i : Int) * (j : Int)) = ((i * j : Nat) : Int) := by rw [← Int.natCast_mul]; exact IntWalk.i64_in _ (by omega)
      have hbl : (bvs (rowP n j i)).length = n := by unfold bvs; rw [List.length_map, hrp]
      refine WC.seq fun K hK => ?_
      refine WC.region rfl ?_
      refine wG rfl rfl (g_lt rfl (.mk rfl rfl) (.mk rfl rfl) (decide_eq_true (by omega))) ?_
      refine WL.nil ?_
      (refine hK _ _ ?_; clear hK)
      refine WC.seq fun K hK => ?_
      refine WC.cond_true (.mk rfl rfl) ?_
      refine WC.skip ?_
      (refine hK _ _ ?_; clear hK)
      refine WC.seq fun K hK => ?_
      refine WC.block ?_
      refine WC.seq fun K hK => ?_
      refine WC.region rfl ?_
      refine wG rfl rfl (g_move rfl (.mk (v := .int _ _) rfl rfl)) ?_
      refine wG rfl rfl (g_assign rfl (.mk (v := .int _ _) rfl rfl)) ?_
      refine WL.nil ?_
      (refine hK _ _ ?_; clear hK)
      refine WC.region rfl ?_
      refine wG rfl rfl (g_move rfl (.mk (v := .slice _ _ _) rfl rfl)) ?_
      refine wG rfl rfl (g_move rfl (.mk (v := .int _ _) rfl rfl)) ?_
      refine wG rfl rfl (g_move rfl (.mk (v := .int _ _) rfl rfl)) ?_
      refine wG rfl rfl (g_move rfl (.mk (v := .int _ _) rfl rfl)) ?_
      refine wG rfl rfl (g_mul rfl (.mk rfl rfl) (.mk rfl rfl) hmul) ?_
      refine WL.want rfl (WL1.callP rfl rfl rfl (.cons (.mk (v := .int _ _) rfl rfl) .nil) (fun w hw => Calls.belowS (exp_j (i * j) (by omega) w)) ?_)
      refine wG rfl rfl (g_indexAddr (sz := 1) rfl (.mk rfl rfl) (.mk rfl rfl) rfl rfl rfl (by omega) (fun _ _ => rfl)) ?_
      refine WL.want rfl (WL1.storeV1 rfl rfl (.mk rfl rfl) (.mk rfl rfl) rfl rfl (by first | omega | (simp; done) | (simp; omega)) (.head) ?_)
      refine WL.nil ?_
      (refine hK _ _ ?_; clear hK)
      refine WC.region rfl ?_
      refine wG rfl rfl (g_add rfl (.mk rfl rfl) (.mk rfl rfl) (IntWalk.i64_in _ (by omega))) ?_
      refine wG rfl rfl (g_move rfl (.mk (v := .int _ _) rfl rfl)) ?_
      refine WL.nil ?_
      exact ⟨i + 1, (by repeat (first | with_reducible exact Out.refl _ _ | refine Out.set rfl ?_ | refine Out.put rfl ?_ | refine Out.sets rfl ?_ | refine Out.hav rfl ?_ | exact Out.refl _ _)), ⟨rfl, trivial⟩, subV (row_put hlt2 (by omega) rfl) (.refl _), by omega, by omega⟩
    · obtain rfl : i = n := by omega
      rw [rowP_all]
      refine WC.seq fun K hK => ?_
      refine WC.region rfl ?_
      refine wG rfl rfl (g_lt rfl (.mk rfl rfl) (.mk rfl rfl) (decide_eq_false (by omega))) ?_
      refine WL.nil ?_
      (refine hK _ _ ?_; clear hK)
      refine WC.seq fun K hK => ?_
      refine WC.cond_false (.mk rfl rfl) ?_
      refine WC.exit ?_
      (clear hK; refine hK _ _ ?_; clear hK)
      refine WC.region rfl ?_
      refine wG rfl rfl (g_move rfl (.mk (v := .slice _ _ _) rfl rfl)) ?_
      refine wG rfl rfl (g_move rfl (.mk (v := .slice _ _ _) rfl rfl)) ?_
      refine WL.want rfl (WL1.lit (cs := [_]) elR rfl rfl rfl (.cons (.mk (v := .slice _ _ _) rfl rfl) .nil) rfl (by simp [Value.cells]) rfl rfl (fun b34 => ?_))
      refine WL.want rfl (WL1.append elR rfl rfl (.mk rfl rfl) (.mk rfl rfl) (.tail (.tail (.head))) (fun w hw => Sl.of_vec hw (.head _)) (by first | (intro u hu; simp only [List.mem_cons, List.not_mem_nil, or_false] at hu; subst hu; rfl) | (intro u hu; simp only [List.mem_map] at hu; obtain ⟨x, _, rfl⟩ := hu; rfl) | (intro u hu; simp only [List.mem_flatMap] at hu; obtain ⟨x, _, hu⟩ := hu; simp at hu; rcases hu with rfl | rfl | rfl | rfl | rfl | rfl | rfl | rfl <;> rfl)) (by unfold maxLen; omega) (by omega) (fun A35 c35 => ?_))
      refine wG rfl rfl (g_assign rfl (.mk (v := .slice _ _ _) rfl rfl)) ?_
      refine WL.nil ?_
      (refine hK _ _ ?_; clear hK)
      refine WC.region rfl ?_
      refine wG rfl rfl (g_add rfl (.mk rfl rfl) (.mk rfl rfl) (IntWalk.i64_in _ (by omega))) ?_
      refine wG rfl rfl (g_move rfl (.mk (v := .int _ _) rfl rfl)) ?_
      refine WL.nil ?_
      obtain ⟨r, hr⟩ : ∃ r : Row, r = ⟨some ⟨b18, 0, none⟩, i, coefs i j⟩ := ⟨_, rfl⟩
      have hv : r.v = .slice (some ⟨b18, 0, none⟩) i i := by rw [hr, Row.v, coefs_len]
      have ho : r.own = vec (some ⟨b18, 0, none⟩) i i 5 1 (bvs (coefs i j)) := by rw [hr, Row.own, coefs_len]
      refine ⟨j + 1, A35, c35, rs ++ [r], (by repeat (first | with_reducible exact Out.refl _ _ | refine Out.set rfl ?_ | refine Out.put rfl ?_ | refine Out.sets rfl ?_ | refine Out.hav rfl ?_ | exact Out.refl _ _)), ⟨rfl, rfl, trivial⟩, ?_, ⟨by omega, by unfold els at *; rw [List.map_append, hrs, List.range_succ, List.map_append, hr]; rfl⟩, by omega⟩
      rw [List.map_append, List.reverse_append, List.map_append]
      show List.Sublist (vec A35 (j + 1) c35 111 1 (rs.map Row.v ++ [r.v]) :: r.own :: rs.reverse.map Row.own) _
      rw [hv, ho]
      exact .cons_cons _ (.cons _ (.refl _))
  · obtain rfl : j = 3 := by omega
    refine WC.seq fun K hK => ?_
    refine WC.region rfl ?_
    refine wG rfl rfl (g_lt rfl (.mk rfl rfl) (.mk rfl rfl) (decide_eq_false (by omega))) ?_
    refine WL.nil ?_
    (refine hK _ _ ?_; clear hK)
    refine WC.seq fun K hK => ?_
    refine WC.cond_false (.mk rfl rfl) ?_
    refine WC.exit ?_
    (clear hK; refine hK _ _ ?_; clear hK)
    refine WC.seq fun K hK => ?_
    refine WC.region rfl ?_
    refine wG rfl rfl (g_move rfl (.mk (v := .slice _ _ _) rfl rfl)) ?_
    refine wG rfl rfl (g_assign rfl (.mk (v := .slice _ _ _) rfl rfl)) ?_
    refine wG rfl rfl (g_assign rfl (.mk (v := .int _ _) rfl rfl)) ?_
    refine WL.nil ?_
    (refine hK _ _ ?_; clear hK)
    refine WC.ret ?_
    exact fun w' hw' => ⟨_, _, rfl, hw'.perm (.cons _ ((List.reverse_perm rs).map _)), B, cB, rs, rfl, by unfold matL; rw [hrl], hrs, hrl⟩
end Go.Proofs.Ytnkbnponpknokaa
namespace Go.Proofs.Ytnkbnponpknokaa
set_option maxRecDepth 20000
open Go.RowKit
attribute [local irreducible] Calls
def upd (ps : List Blk) (i : Nat) (d : Blk) : List Blk := (List.range 3).map fun j => nth ps j + gpow 2 (i * j) * d
def updP (ps : List Blk) (i : Nat) (d : Blk) (m : Nat) : List Blk := (List.range 3).map fun j => if j < m then nth ps j + gpow 2 (i * j) * d else nth ps j
theorem updP_len (ps : List Blk) (i : Nat) (d : Blk) (m : Nat) : (updP ps i d m).length = 3 := by simp [updP]
theorem updP_nth (ps : List Blk) (i : Nat) (d : Blk) (m : Nat) {j : Nat} (h : j < 3) : nth (updP ps i d m) j = if j < m then nth ps j + gpow 2 (i * j) * d else nth ps j := nth_range _ h
theorem updP_zero {ps : List Blk} (h : ps.length = 3) (i : Nat) (d : Blk) : updP ps i d 0 = ps := list_ext_nth (by rw [updP_len, h]) fun j hj => by
  rw [updP_nth _ _ _ _ (by rw [updP_len] at hj; exact hj), if_neg (by omega)]
theorem updP_all (ps : List Blk) (i : Nat) (d : Blk) : updP ps i d 3 = upd ps i d := List.map_congr_left fun q hq => if_pos (by simpa using hq)
theorem updP_set {ps : List Blk} {i m : Nat} {d : Blk} (h : m < 3) : (updP ps i d m).set m (nth ps m + gpow 2 (i * m) * d) = updP ps i d (m + 1) :=
  list_ext_nth (by rw [List.length_set, updP_len, updP_len]) fun q hq => by
    have hq3 : q < 3 := by rw [List.length_set, updP_len] at hq; exact hq
    rw [nth_set_eq (by rw [updP_len]; exact h), updP_nth _ _ _ _ hq3, updP_nth _ _ _ _ hq3]
    by_cases e : q = m
    · subst e; rw [if_pos rfl, if_pos (by omega)]
    · rw [if_neg e]
      by_cases e2 : q < m
      · rw [if_pos e2, if_pos (by omega)]
      · rw [if_neg e2, if_neg (by omega)]
theorem kvs_spl {l : List Blk} {k i : Nat} {b : Blk} {v : List Value} (hk : k < l.length) (hi : i = k * 8) (hv : v = b.cells) : spl (kvs l) i v = kvs (l.set k b) := by
  rw [hi, hv]; exact flat_set (enc := Blk.cells) blk8 (Blk.len _) hk
set_option maxHeartbeats 1000000 in
theorem update_n (v : Value) (ps : List Blk) (i : Nat) (a b : Blk) (w : World) (hv : Sl w 8 v ps.length (kvs ps)) (h1 : ps.length = 3) (h2 : i < 13) : Calls Try.prog 52 #[v, iv i, kv a, kv b] w fun e w' => ∃ v' M, e = .returned v' ∧ H w M w' ∧
    ∃ A c, v' = .tuple #[.slice A 3 c, iv 0] ∧ M = [vec A 3 c 38 8 (kvs (upd ps i (a + b)))] := by
  obtain ⟨A, c, rfl, hc, hm, hs⟩ := hv.open_
  have hf1 : ∀ w, Calls Try.prog 68 #[kv a, kv b, bv 1] w fun e w' => e = .returned (kv (a + b)) ∧ Below w.heap.size w w' := fun w => by have := fused_e a b 1 w; rwa [Blk.one_mul] at this
  refine calls_wc (args := [.slice A ps.length c, iv i, kv a, kv b]) [8, 9] [] Try.func52 rfl Try.ntmps52 rfl rfl rfl rfl (H.refl w) ?_
  refine WC.seq fun K hK => ?_
  refine WC.region rfl ?_
  refine WL.want rfl (WL1.box rfl rfl (.mk (v := .agg _) rfl rfl) rfl (fun b6 => ?_))
  refine WL.want rfl (WL1.box rfl rfl (.mk (v := .agg _) rfl rfl) rfl (fun b7 => ?_))
  refine wG rfl rfl (g_assign rfl (.mk (v := .slice _ _ _) rfl rfl)) ?_
  refine wG rfl rfl (g_assign rfl (.mk (v := .int _ _) rfl rfl)) ?_
  refine WL.nil ?_
  (refine hK _ _ ?_; clear hK)
  refine WC.seq fun K hK => ?_
  refine WC.seq fun K hK => ?_
  refine WC.region rfl ?_
  refine wG rfl rfl (g_move rfl (.mk (v := .slice _ _ _) rfl rfl)) ?_
  refine wG rfl rfl (g_len rfl (.mk rfl rfl) rfl) ?_
  refine wG rfl rfl (g_ne rfl (.mk rfl rfl) (.mk rfl rfl) (decide_eq_false (by omega))) ?_
  refine wG rfl rfl (g_move rfl (.mk (v := .bool _) rfl rfl)) ?_
  refine WL.wantG rfl rfl rfl rfl (WL1.give rfl (g_move rfl (.mk (v := .int _ _) rfl rfl)) ?_)
  refine WL.wantG rfl rfl rfl rfl (WL1.give rfl (g_lt rfl (.mk rfl rfl) (.mk rfl rfl) (decide_eq_false (by omega))) ?_)
  refine wG rfl rfl (g_pickF rfl (.mk rfl rfl) (.mk (v := .bool _) rfl rfl)) ?_
  refine wG rfl rfl (g_move rfl (.mk (v := .bool _) rfl rfl)) ?_
  refine WL.wantG rfl rfl rfl rfl (WL1.give rfl (g_move rfl (.mk (v := .int _ _) rfl rfl)) ?_)
  refine WL.wantG rfl rfl rfl rfl (WL1.give rfl (g_ge rfl (.mk rfl rfl) (.mk rfl rfl) (decide_eq_false (by omega))) ?_)
  refine wG rfl rfl (g_pickF rfl (.mk rfl rfl) (.mk (v := .bool _) rfl rfl)) ?_
  refine WL.nil ?_
  (refine hK _ _ ?_; clear hK)
  refine WC.cond_false (.mk rfl rfl) ?_
  refine WC.skip ?_
  (refine hK _ _ ?_; clear hK)
  refine WC.seq fun K hK => ?_
  refine WC.region rfl ?_
  refine wG rfl rfl (g_loadA rfl (.mk rfl rfl) rfl (sz8 _) (rdr_pt (.tail _ (.head _)) (fun j u h => by simpa using h))) ?_
  refine wG rfl rfl (g_loadA rfl (.mk rfl rfl) rfl (sz8 _) (rdr_pt (.head _) (fun j u h => by simpa using h))) ?_
  refine WL.want rfl (WL1.callP rfl rfl rfl (.cons (.mk (v := .agg _) rfl rfl) (.cons (.mk (v := .agg _) rfl rfl) (.cons (.mk (v := .int _ _) rfl rfl) .nil))) (fun w hw => hf1 w) ?_)
  refine WL.want rfl (WL1.alloc rfl rfl rfl rfl (fun b10 => ?_))
  refine WL.want rfl (WL1.storeAll rfl rfl (.mk rfl rfl) (.mk rfl rfl) rfl (all1 rfl) (by first | rfl | (simp [Blk.len]; done)) (.head) ?_)
  refine WL.nil ?_
  (refine hK _ _ ?_; clear hK)
  refine WC.seq fun K hK => ?_
  refine WC.region rfl ?_
  refine wG rfl rfl (g_move rfl (.mk (v := .slice _ _ _) rfl rfl)) ?_
  (refine WL.want rfl (WL1.callN rfl rfl rfl (.cons (.mk (v := .slice _ _ _) rfl rfl) .nil) (fun w hw => clone_n _ ps w (hv.below hw.1) (by omega) (by omega)) ?_); rintro _ _ ⟨Ac, cc, rfl, rfl⟩)
  refine wG rfl rfl (g_assign rfl (.mk (v := .slice _ _ _) rfl rfl)) ?_
  refine WL.nil ?_
  (refine hK _ _ ?_; clear hK)
  refine WC.seq fun K hK => ?_
  refine WC.seq fun K hK => ?_
  refine WC.region rfl ?_
  refine wG rfl rfl (g_move rfl (.mk (v := .slice _ _ _) rfl rfl)) ?_
  refine wG rfl rfl (g_len rfl (.mk rfl rfl) rfl) ?_
  refine wG rfl rfl (g_move rfl (.mk (v := .int _ _) rfl rfl)) ?_
  refine WL.nil ?_
  (refine hK _ _ ?_; clear hK)
  refine WC.block ?_
  refine WC.loop (281472829231104) (fun m : Nat => [(31, iv m)]) (fun m => [vec Ac ps.length cc 38 8 (kvs (updP ps i (a + b) m)), pt b10 38 (a + b).cells]) (fun m => m ≤ 3) (fun m => 3 - m) 0 ⟨rfl, trivial⟩ (by rw [updP_zero h1]; exact subK (subK (List.nil_sublist _))) (by omega) ?_
  intro m U hm3
  have hul := updP_len ps i (a + b) m
  by_cases hlt : m < 3
  · have hji : i * m ≤ 39 := Nat.le_trans (Nat.mul_le_mul (by omega : i ≤ 13) (by omega : m ≤ 3)) (by omega)
    have hmul : IntKind.i64.wrap ((i : Int) * (m : Int)) = ((i * m : Nat) : Int) := by rw [← Int.natCast_mul]; exact IntWalk.i64_in _ (by omega)
    have hun := updP_nth ps i (a + b) m hlt
    rw [if_neg (by omega)] at hun
    have hlx : (kvs (updP ps i (a + b) m)).length = 3 * 8 := by rw [kvs_len, hul]
    refine WC.seq fun K hK => ?_
    refine WC.region rfl ?_
    refine wG rfl rfl (g_lt rfl (.mk rfl rfl) (.mk rfl rfl) (decide_eq_true (by omega))) ?_
    refine WL.nil ?_
    (refine hK _ _ ?_; clear hK)
    refine WC.seq fun K hK => ?_
    refine WC.cond_true (.mk rfl rfl) ?_
    refine WC.skip ?_
    (refine hK _ _ ?_; clear hK)
    refine WC.seq fun K hK => ?_
    refine WC.block ?_
    refine WC.seq fun K hK => ?_
    refine WC.region rfl ?_
    refine wG rfl rfl (g_move rfl (.mk (v := .int _ _) rfl rfl)) ?_
    refine wG rfl rfl (g_assign rfl (.mk (v := .int _ _) rfl rfl)) ?_
    refine WL.nil ?_
    (refine hK _ _ ?_; clear hK)
    refine WC.split 13 rfl (by kernel_rfl) (by decide +kernel) ?_
    refine WQ.want rfl (WQ1.give rfl (g_move rfl (.mk (v := .slice _ _ _) rfl rfl)) ?_)
    refine WQ.want rfl (WQ1.give rfl (g_move rfl (.mk (v := .int _ _) rfl rfl)) ?_)
    refine WQ.want rfl (WQ1.give rfl (g_move rfl (.mk (v := .slice _ _ _) rfl rfl)) ?_)
    refine WQ.want rfl (WQ1.give rfl (g_move rfl (.mk (v := .int _ _) rfl rfl)) ?_)
    refine WQ.want rfl (WQ1.give rfl (g_indexAddr (sz := 8) rfl (.mk rfl rfl) (.mk rfl rfl) rfl rfl rfl (by omega) (fun w hw => vec_some hw (.head _) (by omega))) ?_)
    refine WQ.want rfl (WQ1.give rfl (g_loadA rfl (.mk rfl rfl) rfl (sz8 _) (rdr_vec (.head _) (by omega) (flat_row (by first | assumption | exact fun _ _ => rfl | exact blk8) (by omega)))) ?_)
    refine WQ.want rfl (WQ1.give rfl (g_loadA rfl (.mk rfl rfl) rfl rfl (rdr_pt (.tail _ (.head _)) (fun j u h => by simpa using h))) ?_)
    refine WQ.want rfl (WQ1.give rfl (g_move rfl (.mk (v := .int _ _) rfl rfl)) ?_)
    refine WQ.want rfl (WQ1.give rfl (g_move rfl (.mk (v := .int _ _) rfl rfl)) ?_)
    refine WQ.want rfl (WQ1.give rfl (g_mul rfl (.mk rfl rfl) (.mk rfl rfl) hmul) ?_)
    refine WQ.want rfl (WQ1.callP rfl rfl rfl (.cons (.mk (v := .int _ _) rfl rfl) .nil) (fun w hw => Calls.belowS (exp_j (i * m) (by omega) w)) ?_)
    refine WQ.want rfl (WQ1.callP rfl rfl rfl (.cons (.mk (v := .agg _) rfl rfl) (.cons (.mk (v := .agg _) rfl rfl) (.cons (.mk (v := .int _ _) rfl rfl) .nil))) (fun w hw => fused_e _ _ _ w) ?_)
    refine WQ.want rfl (WQ1.give rfl (g_indexAddr (sz := 8) rfl (.mk rfl rfl) (.mk rfl rfl) rfl rfl rfl (by omega) (fun w hw => vec_some hw (.head _) (by omega))) ?_)
    refine WQ.nil ?_
    refine WY.one 13 (by decide +kernel) rfl rfl ?_
    refine WL1.storeVA rfl rfl (.mk rfl rfl) (.mk rfl rfl) rfl (all1 rfl) (by first | decide | omega | exact Nat.le_of_ble_eq_true rfl | (simp; done) | (simp; omega) | (rw [Blk.len]; omega)) (by first | omega | (rw [Blk.len]; omega) | (simp; done) | (simp; omega)) (.head) ?_
    refine WL.nil ?_
    refine WY.done (by decide +kernel) ?_
    (refine hK _ _ ?_; clear hK)
    refine WC.region rfl ?_
    refine wG rfl rfl (g_add rfl (.mk rfl rfl) (.mk rfl rfl) (IntWalk.i64_in _ (by omega))) ?_
    refine wG rfl rfl (g_move rfl (.mk (v := .int _ _) rfl rfl)) ?_
    refine WL.nil ?_
    exact ⟨m + 1, (by repeat (first | with_reducible exact Out.refl _ _ | refine Out.set rfl ?_ | refine Out.put rfl ?_ | refine Out.sets rfl ?_ | refine Out.hav rfl ?_ | exact Out.refl _ _)), ⟨rfl, trivial⟩, subV (by rw [hun]; exact (kvs_spl (by omega) (by omega) rfl).trans (congrArg kvs (updP_set hlt))) (.refl _), by omega, by omega⟩
  · obtain rfl : m = 3 := by omega
    refine WC.seq fun K hK => ?_
    refine WC.region rfl ?_
    refine wG rfl rfl (g_lt rfl (.mk rfl rfl) (.mk rfl rfl) (decide_eq_false (by omega))) ?_
    refine WL.nil ?_
    (refine hK _ _ ?_; clear hK)
    refine WC.seq fun K hK => ?_
    refine WC.cond_false (.mk rfl rfl) ?_
    refine WC.exit ?_
    (clear hK; refine hK _ _ ?_; clear hK)
    refine WC.seq fun K hK => ?_
    refine WC.region rfl ?_
    refine wG rfl rfl (g_move rfl (.mk (v := .slice _ _ _) rfl rfl)) ?_
    refine wG rfl rfl (g_assign rfl (.mk (v := .slice _ _ _) rfl rfl)) ?_
    refine wG rfl rfl (g_assign rfl (.mk (v := .int _ _) rfl rfl)) ?_
    refine WL.nil ?_
    (refine hK _ _ ?_; clear hK)
    refine WC.ret ?_
    exact fun w' hw' => ⟨_, _, rfl, hw'.sub (.cons_cons _ (List.nil_sublist _)), Ac, cc, by show Value.tuple #[.slice Ac ps.length cc, iv 0] = _; rw [h1], by rw [h1, updP_all]⟩
end Go.Proofs.Ytnkbnponpknokaa
namespace Go.Proofs.Ytnkbnponpknokaa
set_option maxRecDepth 20000
open Go.RowKit
abbrev rowsA (rs : List Row) : Asrt := bun (rs.map Row.own)
def Row.put (r : Row) (j : Nat) (x : G) : Row := { r with l := r.l.set j x }
theorem Row.put_own (r : Row) (j : Nat) (x : G) : (r.put j x).own = vec r.A r.l.length r.c 5 1 ((bvs r.l).set j (bv x)) := by
  have h : (bvs r.l).set j (bv x) = bvs (r.l.set j x) := by unfold bvs; rw [List.map_set]
  rw [h, Row.own, Row.put, List.length_set]
theorem Row.put_v (r : Row) (j : Nat) (x : G) : (r.put j x).v = r.v := by rw [Row.v, Row.v, Row.put, List.length_set]
theorem nth_eq' {α : Type} [Inhabited α] {l : List α} {k : Nat} (h : k < l.length) : nth l k = l[k] := nth_eq h
theorem set_parts {α : Type} [Inhabited α] {l : List α} {k : Nat} (a : α) (h : k < l.length) : l.set k a = l.take k ++ a :: l.drop (k + 1) ∧ l = l.take k ++ nth l k :: l.drop (k + 1) := by
  refine ⟨by rw [List.set_eq_take_append_cons_drop, if_pos h], ?_⟩
  rw [nth_eq' h, List.getElem_cons_drop, List.take_append_drop]
theorem own_focus {rs : List Row} {k : Nat} (L : List Asrt) (hk : k < rs.length) : (rs.map Row.own ++ L).Perm ((nth rs k).own :: ((rs.take k ++ rs.drop (k + 1)).map Row.own ++ L)) := by
  have h := (set_parts (default : Row) hk).2
  refine List.Perm.trans (List.Perm.append_right L (List.Perm.map Row.own (?_ : rs.Perm (nth rs k :: (rs.take k ++ rs.drop (k + 1)))))) (.refl _)
  conv => lhs; rw [h]
  exact List.perm_middle
theorem own_unfocus {rs : List Row} {k : Nat} (r : Row) (L : List Asrt) (hk : k < rs.length) : (r.own :: ((rs.take k ++ rs.drop (k + 1)).map Row.own ++ L)).Perm ((rs.set k r).map Row.own ++ L) := by
  refine List.Perm.trans (.refl _) (List.Perm.append_right L (List.Perm.map Row.own (?_ : (r :: (rs.take k ++ rs.drop (k + 1))).Perm (rs.set k r))))
  rw [(set_parts r hk).1]
  exact List.perm_middle.symm
section
variable {P : Program} {n : Fr} {w0 : World} {ops : Array Oper} {K : Post} {o : Oper} {rest : List Oper} {E : Env} {L L' : List Asrt}
theorem rowA_own {w : World} {rs : List Row} {k : Nat} (hw : H w0 L w) (hm : rowsA rs ∈ L) (hk : k < rs.length) : w.ownsRow 0 5 1 (nth rs k).v (nth rs k).l.length (bvs (nth rs k).l) :=
  (Sep.in_ (hw.2.in_ _ hm).1 (nth rs k).own (List.mem_map_of_mem (nth_mem hk))).1
theorem Sl.of_rowA {w : World} {rs : List Row} {k : Nat} (hw : H w0 L w) (hm : rowsA rs ∈ L) (hk : k < rs.length) : Sl w 1 (nth rs k).v (nth rs k).l.length (bvs (nth rs k).l) := Sl.of_own (rowA_own hw hm hk)
theorem rowA_some {rs : List Row} {k : Nat} (hm : rowsA rs ∈ L) (hk : k < rs.length) (hj : 0 < (nth rs k).l.length) : ∀ w, H w0 L w → (nth rs k).A.isSome = true := fun _ hw => sl_some (Sl.of_rowA hw hm hk) (by omega)
theorem rowA_cap {w : World} {rs : List Row} {k : Nat} (hw : H w0 L w) (hm : rowsA rs ∈ L) (hk : k < rs.length) : (nth rs k).l.length ≤ (nth rs k).c := by
  obtain ⟨_, A', c', h2, h3, _⟩ := Sl.of_rowA hw hm hk
  unfold Row.v at h2
  injection h2 with _ _ e3
  omega
theorem rd_rowA {rs : List Row} {k j : Nat} (hm : rowsA rs ∈ L) (hk : k < rs.length) (hj : j < (nth rs k).l.length) : RdC (H w0 L) (nth rs k).A (j * 1) (bv (nth (nth rs k).l j)) := fun w hw => by
  have h := Sl.of_rowA hw hm hk
  obtain ⟨h1, A', c', h2, h3, h4, h5⟩ := h
  unfold Row.v at h2
  injection h2 with e1 e2 e3
  obtain ⟨ad, e, hl, hc⟩ := h5 (by omega)
  exact ⟨ad, e1.trans e, hc _ _ (by rw [Nat.mul_one, bvs, List.getElem?_map, nth_get hj]; rfl)⟩
theorem MatAt.of_rowsA {w : World} {A : Option Addr} {c : Nat} {rs : List Row} (hw : H w0 L w) (h0 : vec A rs.length c 111 1 (rs.map Row.v) ∈ L) (h : rowsA rs ∈ L) : MatAt w (.slice A rs.length c) rs :=
  ⟨Sl.of_vec hw h0, fun r hr => by
    obtain ⟨k, hk, rfl⟩ := List.getElem_of_mem hr
    have := Sl.of_rowA hw h hk
    rwa [nth_eq' hk] at this⟩
theorem WL1.storeRow {t : TypeId} {x y : Operand} {rs : List Row} {k j i : Nat} {g : G} {v : Value} {A' : Option Addr} (ho : o.op = .store t x y) (hd : o.dst = none) (hx : Ev n E x (cellPtr A' i)) (hA : A' = (nth rs k).A) (hi : i = j * 1) (hy : Ev n E y v) (hg : v = bv g) (ht : szT P t = some 1) (hk : k < rs.length) (hj : j < (nth rs k).l.length)
    (hs : Swap (rowsA rs) (rowsA (rs.set k ((nth rs k).put j g))) L L') (h : WL P n w0 ops K rest E L') : WL1 P n w0 ops K o rest E L := by
  subst hg; subst hA
  obtain ⟨L1, p1, p2⟩ := hs.perms
  refine WL1.imp (((Imp.perm p1).trans (Imp.unbun _ _)).trans (Imp.perm (own_focus L1 hk))) ?_
  refine WL1.storeV1 (m := (nth rs k).l.length) (c := (nth rs k).c) (e := 5) (sz := 1) (xs := bvs (nth rs k).l) ho hd hx hy ht rfl (by rw [hi]; simpa using hj) .head ?_
  refine WL.imp ?_ h
  have e1 : vec (nth rs k).A (nth rs k).l.length (nth rs k).c 5 1 ((bvs (nth rs k).l).set i (bv g)) = ((nth rs k).put j g).own := by rw [Row.put_own, hi, Nat.mul_one]
  rw [e1]
  exact ((Imp.perm (own_unfocus _ L1 hk)).trans (Imp.bun _ _)).trans (Imp.perm p2.symm)
end
def Row.copy (r : Row) (l : List G) : Row := { r with l := l ++ r.l.drop l.length }
theorem Row.copy_own (r : Row) {l : List G} (h : l.length ≤ r.l.length) : (r.copy l).own = vec r.A r.l.length r.c 5 1 (bvs l ++ (bvs r.l).drop l.length) := by
  have e1 : bvs l ++ (bvs r.l).drop l.length = bvs (l ++ r.l.drop l.length) := by unfold bvs; rw [List.map_append, List.map_drop]
  have e2 : (l ++ r.l.drop l.length).length = r.l.length := by rw [List.length_append, List.length_drop]; omega
  rw [e1, Row.own, Row.copy, e2]
theorem Row.copy_v (r : Row) {l : List G} (h : l.length ≤ r.l.length) : (r.copy l).v = r.v := by
  have e2 : (l ++ r.l.drop l.length).length = r.l.length := by rw [List.length_append, List.length_drop]; omega
  rw [Row.v, Row.v, Row.copy, e2]
theorem WL1.copyRow {P : Program} {n : Fr} {w0 : World} {ops : Array Oper} {K : Post} {o : Oper} {rest : List Oper} {E : Env} {L L' : List Asrt} {x y : Operand} {t t' : TypeId} {d : Option Tmp} {rs : List Row} {k m c : Nat} {l : List G} {src : Value} (ht : P.underlying t = some (.slice 5)) (hs1 : szT P 5 = some 1)
    (ho : o.op = .call { callee := .builtin .copy, args := #[x, y], argTypes := #[t, t'] }) (hd : o.dst = d) (hx : Ev n E x (.slice (nth rs k).A m c)) (hm : m = (nth rs k).l.length) (hc : c = (nth rs k).c) (hy : Ev n E y src) (hk : k < rs.length) (h0 : 0 < l.length) (hkm : l.length ≤ (nth rs k).l.length)
    (hsl : ∀ w, H w0 L w → Sl w 1 src l.length (bvs l)) (hs : Swap (rowsA rs) (rowsA (rs.set k ((nth rs k).copy l))) L L')
    (h : WL P n w0 ops K rest (E.put d (.int .i64 l.length)) L') : WL1 P n w0 ops K o rest E L := by
  subst hm; subst hc
  obtain ⟨L1, p1, p2⟩ := hs.perms
  have i1 := ((Imp.perm p1).trans (Imp.unbun _ _)).trans (Imp.perm (own_focus L1 hk))
  have i2 := (Imp.unbun _ _).trans (Imp.perm (own_focus L1 hk))
  refine WL1.imp i1 ?_
  refine WL1.copyV (m := (nth rs k).l.length) (c := (nth rs k).c) (xs := bvs (nth rs k).l) ht hs1 ho hd hx hy h0 hkm (fun w hw => hsl w ?_) (one_of_int .u8 (fun x : G => (x.val : Int)) l) .head (WL.imp ?_ h)
  · exact ((((Imp.perm (own_focus L1 hk).symm).trans (Imp.bun _ _))).trans (Imp.perm p1.symm)).h hw
  · rw [← Row.copy_own _ hkm]
    exact ((Imp.perm (own_unfocus _ L1 hk)).trans (Imp.bun _ _)).trans (Imp.perm p2.symm)
theorem Imp.row_put {rs : List Row} {k : Nat} (r : Row) (L : List Asrt) (hk : k < rs.length) : Imp (r.own :: rowsA rs :: L) (rowsA (rs.set k r) :: L) :=
  ((Imp.cons ((Imp.unbun _ _).trans ((Imp.perm (own_focus L hk)).trans (Imp.sub (.cons _ (.refl _)))))).trans (Imp.perm (own_unfocus r L hk))).trans (Imp.bun _ _)
theorem Imp.row_add (rs : List Row) (r : Row) (L : List Asrt) : Imp (r.own :: rowsA rs :: L) (rowsA (rs ++ [r]) :: L) :=
  ((Imp.cons (Imp.unbun _ _)).trans (Imp.perm (show (r.own :: (rs.map Row.own ++ L)).Perm ((rs ++ [r]).map Row.own ++ L) by rw [List.map_append, List.append_assoc]; exact List.perm_middle.symm))).trans (Imp.bun _ _)
theorem Imp.rows_perm {rs rs' : List Row} (h : rs.Perm rs') (L : List Asrt) : Imp (rowsA rs :: L) (rowsA rs' :: L) :=
  ((Imp.unbun _ _).trans (Imp.perm (List.Perm.append_right L (h.map Row.own)))).trans (Imp.bun _ _)
theorem Imp.rows_nil (L : List Asrt) : Imp L (rowsA [] :: L) := Imp.bun [] L
theorem Imp.rows_of (rs : List Row) (L : List Asrt) : Imp (rs.map Row.own ++ L) (rowsA rs :: L) := Imp.bun _ _
theorem rowsv_set {rs : List Row} {k : Nat} (r : Row) : (rs.set k r).map Row.v = (rs.map Row.v).set k r.v := List.map_set
theorem Imp.put2 {rs : List Row} {k : Nat} {r : Row} {L L1 L2 : List Asrt} (h1 : Take r.own L L1) (h2 : Swap (rowsA rs) (rowsA (rs.set k r)) L1 L2) (hk : k < rs.length) : Imp L L2 := by
  obtain ⟨L3, p1, p2⟩ := h2.perms
  exact (Imp.perm (h1.perm.trans (p1.cons _))).trans ((Imp.row_put r L3 hk).trans (Imp.perm p2.symm))
theorem Imp.add2 {rs : List Row} {r : Row} {L L1 L2 : List Asrt} (h1 : Take r.own L L1) (h2 : Swap (rowsA rs) (rowsA (rs ++ [r])) L1 L2) : Imp L L2 := by
  obtain ⟨L3, p1, p2⟩ := h2.perms
  exact (Imp.perm (h1.perm.trans (p1.cons _))).trans ((Imp.row_add rs r L3).trans (Imp.perm p2.symm))
end Go.Proofs.Ytnkbnponpknokaa
namespace Go.Proofs.Ytnkbnponpknokaa
set_option maxRecDepth 20000
def gsum : Nat → (Nat → G) → G
  | 0, _ => 0
  | n + 1, f => gsum n f + f n
theorem gsum_congr {n : Nat} {f g : Nat → G} (h : ∀ k, k < n → f k = g k) : gsum n f = gsum n g := by
  induction n with
  | zero => rfl
  | succ n ih => rw [gsum, gsum, ih fun k hk => h k (by omega), h n (by omega)]
theorem gsum_add (n : Nat) (f g : Nat → G) : gsum n (fun k => f k + g k) = gsum n f + gsum n g := by
  induction n with
  | zero => exact (G.add_zero 0).symm
  | succ n ih => rw [gsum, gsum, gsum, ih]; ac_rfl
theorem gsum_zero {n : Nat} {f : Nat → G} (h : ∀ k, k < n → f k = 0) : gsum n f = 0 := by
  induction n with
  | zero => rfl
  | succ n ih => rw [gsum, ih fun k hk => h k (by omega), h n (by omega), G.add_zero]
theorem mul_gsum (c : G) (n : Nat) (f : Nat → G) : c * gsum n f = gsum n (fun k => c * f k) := by
  induction n with
  | zero => exact G.mul_zero c
  | succ n ih => rw [gsum, gsum, G.mul_add, ih]
theorem gsum_mul (c : G) (n : Nat) (f : Nat → G) : gsum n f * c = gsum n (fun k => f k * c) := by
  rw [G.mul_comm, mul_gsum]; exact gsum_congr fun k _ => G.mul_comm _ _
theorem gsum_swap (n m : Nat) (f : Nat → Nat → G) : gsum n (fun i => gsum m (fun j => f i j)) = gsum m (fun j => gsum n (fun i => f i j)) := by
  induction n with
  | zero => exact (gsum_zero fun _ _ => rfl).symm
  | succ n ih =>
    show gsum n (fun i => gsum m (fun j => f i j)) + gsum m (fun j => f n j) = gsum m (fun j => gsum n (fun i => f i j) + f n j)
    rw [ih, ← gsum_add]
theorem gsum_take {n a : Nat} (ha : a < n) (f : Nat → G) : gsum n f = f a + gsum n (fun k => if k = a then 0 else f k) := by
  induction n with
  | zero => omega
  | succ n ih =>
    rw [gsum, gsum]
    by_cases h : a = n
    · subst h
      rw [if_pos rfl, G.add_zero, G.add_comm]
      congr 1
      exact gsum_congr fun k hk => by rw [if_neg (by omega)]
    · rw [ih (by omega), if_neg (by omega), G.add_assoc]
theorem gsum_one {n a : Nat} (ha : a < n) {f : Nat → G} (h : ∀ k, k < n → k ≠ a → f k = 0) : gsum n f = f a := by
  rw [gsum_take ha, gsum_zero, G.add_zero]
  intro k hk
  by_cases e : k = a
  · rw [if_pos e]
  · rw [if_neg e, h k hk e]
def dlt (i j : Nat) : G := if i = j then 1 else 0
theorem dlt_self (i : Nat) : dlt i i = 1 := if_pos rfl
theorem dlt_ne {i j : Nat} (h : i ≠ j) : dlt i j = 0 := if_neg h
theorem gsum_dlt {n i : Nat} (hi : i < n) (f : Nat → G) : gsum n (fun j => dlt i j * f j) = f i := by
  rw [gsum_one hi fun k _ hk => by rw [dlt_ne (fun e => hk e.symm), G.zero_mul], dlt_self, G.one_mul]
theorem gsum_dlt' {n i : Nat} (hi : i < n) (f : Nat → G) : gsum n (fun j => f j * dlt j i) = f i := by
  rw [gsum_one hi fun k _ hk => by rw [dlt_ne hk, G.mul_zero], dlt_self, G.mul_one]
theorem gsum_assoc (p q : Nat) (a : Nat → G) (b : Nat → Nat → G) (c : Nat → G) : gsum q (fun k => gsum p (fun j => a j * b j k) * c k) = gsum p (fun j => a j * gsum q (fun k => b j k * c k)) := by
  have h1 : gsum q (fun k => gsum p (fun j => a j * b j k) * c k) = gsum q (fun k => gsum p (fun j => a j * b j k * c k)) := gsum_congr fun k _ => gsum_mul _ _ _
  rw [h1, gsum_swap]
  exact gsum_congr fun j _ => by rw [mul_gsum]; exact gsum_congr fun k _ => G.mul_assoc _ _ _
theorem hom : ∀ (q p : Nat) (A : Nat → Nat → G), q < p → ∃ x : Nat → G, (∃ k, k < p ∧ x k ≠ 0) ∧ ∀ i, i < q → gsum p (fun k => A i k * x k) = 0
  | 0, p, _, h => ⟨fun _ => 1, ⟨0, h, one_ne_zero⟩, fun i hi => absurd hi (by omega)⟩
  | q + 1, 0, _, h => absurd h (by omega)
  | q + 1, p + 1, A, h => by
    by_cases hz : ∀ i, i < q + 1 → A i p = 0
    · refine ⟨fun k => dlt k p, ⟨p, by omega, by show dlt p p ≠ 0; rw [dlt_self]; exact one_ne_zero⟩, fun i hi => ?_⟩
      rw [gsum_dlt' (by omega), hz i hi]
    · obtain ⟨r, hr, hne⟩ : ∃ r, r < q + 1 ∧ A r p ≠ 0 := by
        refine Classical.byContradiction fun hn => hz fun i hi => Classical.byContradiction fun hx => hn ⟨i, hi, hx⟩
      obtain ⟨v, hv⟩ : ∃ v, v = ginv (A r p) := ⟨_, rfl⟩
      have hv1 : A r p * v = 1 := by rw [hv]; exact mul_ginv hne
      obtain ⟨x, ⟨k0, hk0, hx0⟩, hx⟩ := hom q p (fun i k => A (if i < r then i else i + 1) k + A (if i < r then i else i + 1) p * v * A r k) (by omega)
      obtain ⟨s, hs⟩ : ∃ s, s = gsum p (fun k => A r k * x k) := ⟨_, rfl⟩
      refine ⟨fun k => if k = p then v * s else x k, ⟨k0, by omega, by show (if k0 = p then v * s else x k0) ≠ 0; rw [if_neg (by omega)]; exact hx0⟩, fun i hi => ?_⟩
      have hsum : gsum (p + 1) (fun k => A i k * (if k = p then v * s else x k)) = gsum p (fun k => A i k * x k) + A i p * (v * s) := by
        rw [gsum, if_pos rfl]
        congr 1
        exact gsum_congr fun k hk => by rw [if_neg (by omega)]
      rw [hsum]
      by_cases hir : i = r
      · subst hir
        rw [← G.mul_assoc, hv1, G.one_mul, hs, G.add_self]
      · obtain ⟨j, hj, hji⟩ : ∃ j, j < q ∧ (if j < r then j else j + 1) = i := by
          by_cases hlt : i < r
          · exact ⟨i, by omega, if_pos hlt⟩
          · exact ⟨i - 1, by omega, by rw [if_neg (by omega)]; omega⟩
        have h1 := hx j hj
        simp only [hji] at h1
        have h2 : gsum p (fun k => (A i k + A i p * v * A r k) * x k) = gsum p (fun k => A i k * x k) + A i p * v * s := by
          rw [hs, mul_gsum, ← gsum_add]
          exact gsum_congr fun k _ => by rw [G.add_mul, G.mul_assoc]
        rw [h2] at h1
        rw [← G.mul_assoc]; exact h1
theorem inv_two {n : Nat} {P Q : Nat → Nat → G} (h : ∀ i, i < n → ∀ j, j < n → gsum n (fun k => P i k * Q k j) = dlt i j) : ∀ i, i < n → ∀ j, j < n → gsum n (fun k => Q i k * P k j) = dlt i j := by
  intro i0 hi0 k hk
  refine Classical.byContradiction fun hne => ?_
  obtain ⟨z, hz⟩ : ∃ z : Nat → G, z = fun i => dlt i k + gsum n (fun j => Q i j * P j k) := ⟨_, rfl⟩
  have hz0 : z i0 ≠ 0 := fun e => hne (by rw [hz] at e; exact (G.add_cancel e).symm)
  obtain ⟨u, ⟨m, hm, hum⟩, hu⟩ := hom n (n + 1) (fun i j => if j < n then Q i j else z i) (by omega)
  have hs : ∀ i, i < n → gsum n (fun j => Q i j * u j) + z i * u n = 0 := fun i hi => by
    have := hu i hi
    rw [gsum, if_neg (by omega)] at this
    rw [← this]
    congr 1
    exact gsum_congr fun j hj => by rw [if_pos hj]
  have hPz : ∀ i, i < n → gsum n (fun l => P i l * z l) = 0 := fun i hi => by
    have e1 : gsum n (fun l => P i l * z l) = gsum n (fun l => P i l * dlt l k) + gsum n (fun l => P i l * gsum n (fun j => Q l j * P j k)) := by
      rw [← gsum_add]; exact gsum_congr fun l _ => by rw [hz, G.mul_add]
    rw [e1, gsum_dlt' hk, ← gsum_assoc]
    have e2 : gsum n (fun j => gsum n (fun l => P i l * Q l j) * P j k) = gsum n (fun j => dlt i j * P j k) := gsum_congr fun j hj => by rw [h i hi j hj]
    rw [e2, gsum_dlt hi, G.add_self]
  have hu0 : ∀ i, i < n → u i = 0 := fun i hi => by
    have e1 : gsum n (fun l => P i l * (gsum n (fun j => Q l j * u j) + z l * u n)) = 0 := gsum_zero fun l hl => by rw [hs l hl, G.mul_zero]
    have e2 : gsum n (fun l => P i l * (gsum n (fun j => Q l j * u j) + z l * u n)) = gsum n (fun l => P i l * gsum n (fun j => Q l j * u j)) + gsum n (fun l => P i l * z l) * u n := by
      rw [gsum_mul, ← gsum_add]; exact gsum_congr fun l _ => by rw [G.mul_add, G.mul_assoc]
    rw [e2, hPz i hi, G.zero_mul, G.add_zero, ← gsum_assoc] at e1
    have e3 : gsum n (fun j => gsum n (fun l => P i l * Q l j) * u j) = gsum n (fun j => dlt i j * u j) := gsum_congr fun j hj => by rw [h i hi j hj]
    rw [e3, gsum_dlt hi] at e1
    exact e1
  have hmn : m = n := Classical.byContradiction fun e => hum (hu0 m (by omega))
  subst hmn
  have := hs i0 hi0
  rw [gsum_zero fun j hj => by rw [hu0 j hj, G.mul_zero], G.zero_add] at this
  rcases mul_eq_zero_iff.1 this with e | e
  · exact hz0 e
  · exact hum e
end Go.Proofs.Ytnkbnponpknokaa
namespace Go.Proofs.Ytnkbnponpknokaa
set_option maxRecDepth 20000
open Go.RowKit
set_option maxHeartbeats 1000000 in
theorem fused_any (v1 v2 : Value) (dst src : List G) (c : G) (w : World) (hlen : dst.length = src.length) (hsz : dst.length ≤ 1000000) (h1 : Sl w 1 v1 dst.length (bvs dst)) (h2 : Sl w 1 v2 src.length (bvs src)) :
    Calls Try.prog 104 #[v1, v2, bv c] w fun e w' => ∃ v, e = .returned (.tuple #[v, iv 0]) ∧
      w'.ownsRow w.heap.size 5 1 v dst.length (bvs (gfused dst src c)) ∧ Below w.heap.size w w' := by
  obtain ⟨A1, c1, rfl, hc1, hm1, h1⟩ := h1.open_
  obtain ⟨A2, c2, rfl, hc2, hm2, h2⟩ := h2.open_
  obtain ⟨n, hn⟩ : ∃ n, n = dst.length := ⟨_, rfl⟩
  rw [← hlen, ← hn] at h2
  rw [← hn] at h1
  have ne : ((n : Int) != (n : Int)) = false := by simp
  have H : dst.length = n ∧ src.length = n := ⟨hn.symm, by omega⟩
  rw [← hlen, ← hn]
  clear hlen
  have HN := Lib.hid hn
  have HL := Lib.hid H
  rw [← hn] at hsz
  clear hn H
  go_enter Try.func104, Try.ntmps104
  go_wp2_with (at_make; refine wpList_make elB rfl _ _ rfl _ _ n rfl rfl (by omega) (by unfold maxLen; omega) ?_; intro w1 hown hb1)
  have hb1' := hb1
  have HF : Hid ((bvs (gfused dst src c)).length = n) := by show _ = _; rw [bvs, List.length_map, gfused_length _ _ _ (by rw [HL.out.1, HL.out.2]), HL.out.1]
  go_loopw [20] (fun i wr => ∃ k : Nat, k ≤ n ∧ i = iv k ∧ wr.ownsRow w.heap.size 5 1 (.slice (some ⟨w.heap.size, 0, none⟩) n n) n (fillv (bvs (gfused dst src c)) (.int .u8 0) k) ∧ Below w.heap.size w wr) (fun i _ => n - (intOf i).toNat)
  case atStart => exact ⟨0, by omega, rfl, by rw [fillv_zero, HF.out]; rw [show (Value.int .u8 0).cells = #[Value.int .u8 0] from rfl, made_one] at hown; exact hown, hb1⟩
  case round =>
    obtain ⟨k, hk, rfl, hown1, hbel⟩ := hrel
    clear hown hb1 hb1'
    by_cases hlt : k < n
    · obtain ⟨ad1, u1, rfl, hu1, hl1, hx1⟩ := h1.at_ hlt
      obtain ⟨ad2, u2, rfl, hu2, hl2, hx2⟩ := h2.at_ hlt
      have hd : k < dst.length := by rw [HL.out.1]; exact hlt
      have hs : k < src.length := by rw [HL.out.2]; exact hlt
      obtain rfl : bv dst[k] = u1 := by simpa [bvs, List.getElem?_map, List.getElem?_eq_getElem hd] using hu1
      obtain rfl : bv src[k] = u2 := by simpa [bvs, List.getElem?_map, List.getElem?_eq_getElem hs] using hu2
      have hy1 := (hbel.cell (by rw [addBlock]; exact hl1)).trans hx1
      have hy2 := (hbel.cell (by rw [addBlock]; exact hl2)).trans hx2
      have hy3 := hown1.cellAt k (by omega)
      have hy4 := hown1.frozenAt k
      have hfr := fillv_rest (z := .int .u8 0) (Nat.le_refl k) (by rw [HF.out]; exact hlt)
      rw [hfr] at hy3
      have exor := G.add_val dst[k] (c * src[k])
      clear hx1 hx2 h1 h2 hfr hu1 hu2
      go_wp2_with (fail)
      refine wp_region_still_tail 14 fol (by kernel_rfl) ?_
      simp only [List.take_succ_cons, List.take_zero, List.drop_succ_cons, List.drop_zero]
      repeat (first | still_step | still_call (still_of (mul_any _ _ _)))
      refine wpStill_nil ?_
      change wpList _ _ _ _ _ wr.drew
      go_wp2_with (fail)
      go_roundw
      case rel =>
        have hst := hown1.stored k (.int .u8 ((dst[k] + c * src[k]).val : Int))
        refine ⟨k + 1, by omega, by go_num, ?_, ?_⟩
        · rw [← fillv_set _ _ (.int .u8 ((dst[k] + c * src[k]).val : Int)) (by rw [bvs, List.getElem?_map, gfused_get _ _ _ _ hd hs]; rfl)]
          exact hst.1.drew
        · exact (hbel.setCell (Nat.le_refl _) _).drew
      case measure => simp [intOf]; omega
    · obtain rfl : k = n := by omega
      have hfin := hown1
      rw [show k = (bvs (gfused dst src c)).length from HF.out.symm, fillv_all, HF.out] at hfin
      have HO := Lib.hid hfin
      clear hfin hown1
      go_wp2_with (fail)
      go_ret2
      exact ⟨_, rfl, HO.out, hbel⟩
end Go.Proofs.Ytnkbnponpknokaa
namespace Go.Proofs.Ytnkbnponpknokaa
set_option maxRecDepth 20000
open Go.RowKit
attribute [local irreducible] Calls
theorem nth_put {α : Type} [Inhabited α] {l : List α} {k : Nat} {a : α} (hk : k < l.length) (j : Nat) : nth (l.set k a) j = if j = k then a else nth l j := by
  unfold nth
  rw [List.getD_eq_getElem?_getD, List.getD_eq_getElem?_getD, List.getElem?_set]
  by_cases h : j = k
  · subst h; rw [if_pos rfl, if_pos hk, if_pos rfl]; rfl
  · rw [if_neg (fun e => h e.symm), if_neg h]
theorem els_len (rs : List Row) : (els rs).length = rs.length := by simp [els]
theorem els_at {rs : List Row} {k : Nat} (h : k < rs.length) : nth (els rs) k = (nth rs k).l := nth_map Row.l h
def Good (m : List (List G)) : Prop := 1 ≤ m.length ∧ m.length ≤ 64 ∧ 1 ≤ (nth m 0).length ∧ (nth m 0).length ≤ 64 ∧ ∀ k, k < m.length → (nth m k).length = (nth m 0).length
def goodB (m : List (List G)) : Bool := decide (1 ≤ m.length) && decide (m.length ≤ 64) && decide (1 ≤ (nth m 0).length) && decide ((nth m 0).length ≤ 64) && (List.range m.length).all fun k => decide ((nth m k).length = (nth m 0).length)
theorem goodB_iff {m : List (List G)} : goodB m = true ↔ Good m := by
  unfold goodB Good
  simp only [Bool.and_eq_true, decide_eq_true_eq, List.all_eq_true, List.mem_range]
  exact ⟨fun ⟨⟨⟨⟨a, b⟩, c⟩, d⟩, e⟩ => ⟨a, b, c, d, e⟩, fun ⟨a, b, c, d, e⟩ => ⟨⟨⟨⟨a, b⟩, c⟩, d⟩, e⟩⟩
theorem goodB_no {m : List (List G)} (h : ¬ Good m) : goodB m = false := by
  cases hb : goodB m with
  | false => rfl
  | true => exact absurd (goodB_iff.1 hb) h
theorem Good.row {rs : List Row} (h : Good (els rs)) {k : Nat} (hk : k < rs.length) : (nth rs k).l.length = (nth rs 0).l.length := by
  have := h.2.2.2.2 k (by rw [els_len]; exact hk)
  rwa [els_at hk, els_at (by omega)] at this
theorem good_of {rs : List Row} (h1 : 1 ≤ rs.length) (h2 : rs.length ≤ 64) (h3 : 1 ≤ (nth rs 0).l.length) (h4 : (nth rs 0).l.length ≤ 64) (h5 : ∀ k, k < rs.length → (nth rs k).l.length = (nth rs 0).l.length) : Good (els rs) := by
  refine ⟨by rw [els_len]; exact h1, by rw [els_len]; exact h2, by rw [els_at (by omega)]; exact h3, by rw [els_at (by omega)]; exact h4, fun k hk => ?_⟩
  rw [els_len] at hk
  rw [els_at hk, els_at (by omega)]; exact h5 k hk
theorem Good.parts {rs : List Row} (h : Good (els rs)) : 1 ≤ rs.length ∧ rs.length ≤ 64 ∧ 1 ≤ (nth rs 0).l.length ∧ (nth rs 0).l.length ≤ 64 := by
  obtain ⟨h1, h2, h3, h4, _⟩ := h
  rw [els_len] at h1 h2
  rw [els_at (by omega)] at h3 h4
  exact ⟨h1, h2, h3, h4⟩
set_option maxHeartbeats 1000000 in
theorem valid_e (v : Value) (rs : List Row) (w : World) (hv : MatAt w v rs) : Calls Try.prog 99 #[v] w fun e w' => e = .returned (.bool (goodB (els rs))) ∧ Below w.heap.size w w' := by
  obtain ⟨A, c, rfl, hc, hm, hs⟩ := hv.1.open_
  unfold maxLen at hm
  by_cases h0 : 1 ≤ rs.length ∧ rs.length ≤ 64
  · obtain ⟨h1, h2⟩ := h0
    by_cases h0 : 1 ≤ (nth rs 0).l.length ∧ (nth rs 0).l.length ≤ 64
    · obtain ⟨h3, h4⟩ := h0
      refine calls_wc (args := [.slice A rs.length c]) [2] [] Try.func99 rfl Try.ntmps99 rfl rfl rfl rfl (H.refl w) ?_
      refine WC.seq fun K hK => ?_
      refine WC.region rfl ?_
      refine wG rfl rfl (g_assign rfl (.mk (v := .bool _) rfl rfl)) ?_
      refine WL.nil ?_
      (refine hK _ _ ?_; clear hK)
      refine WC.seq fun K hK => ?_
      refine WC.seq fun K hK => ?_
      refine WC.region rfl ?_
      refine wG rfl rfl (g_move rfl (.mk (v := .slice _ _ _) rfl rfl)) ?_
      refine wG rfl rfl (g_len rfl (.mk rfl rfl) rfl) ?_
      refine wG rfl rfl (g_lt rfl (.mk rfl rfl) (.mk rfl rfl) (decide_eq_false (by omega))) ?_
      refine wG rfl rfl (g_move rfl (.mk (v := .bool _) rfl rfl)) ?_
      refine WL.wantG rfl rfl rfl rfl (WL1.give rfl (g_move rfl (.mk (v := .slice _ _ _) rfl rfl)) ?_)
      refine WL.wantG rfl rfl rfl rfl (WL1.give rfl (g_len rfl (.mk rfl rfl) rfl) ?_)
      refine WL.wantG rfl rfl rfl rfl (WL1.give rfl (g_gt rfl (.mk rfl rfl) (.mk rfl rfl) (decide_eq_false (by omega))) ?_)
      refine wG rfl rfl (g_pickF rfl (.mk rfl rfl) (.mk (v := .bool _) rfl rfl)) ?_
      refine wG rfl rfl (g_move rfl (.mk (v := .bool _) rfl rfl)) ?_
      refine WL.wantG rfl rfl rfl rfl (WL1.give rfl (g_move rfl (.mk (v := .slice _ _ _) rfl rfl)) ?_)
      refine WL.wantG rfl rfl rfl rfl (WL1.give rfl (g_indexAddr (sz := 1) rfl (.mk rfl rfl) (.mk rfl rfl) rfl rfl (show _ = ((0 : Nat) : Int) from rfl) (by omega) (fun _ _ => sl_some hs (by omega))) ?_)
      refine WL.wantG rfl rfl rfl rfl (WL1.give rfl (g_load rfl (.mk rfl rfl) rfl (rd_sl hs (get1 (by omega)))) ?_)
      refine WL.wantG rfl rfl rfl rfl (WL1.give rfl (g_len rfl (.mk rfl rfl) rfl) ?_)
      refine WL.wantG rfl rfl rfl rfl (WL1.give rfl (g_lt rfl (.mk rfl rfl) (.mk rfl rfl) (decide_eq_false (by omega))) ?_)
      refine wG rfl rfl (g_pickF rfl (.mk rfl rfl) (.mk (v := .bool _) rfl rfl)) ?_
      refine wG rfl rfl (g_move rfl (.mk (v := .bool _) rfl rfl)) ?_
      refine WL.wantG rfl rfl rfl rfl (WL1.give rfl (g_move rfl (.mk (v := .slice _ _ _) rfl rfl)) ?_)
      refine WL.wantG rfl rfl rfl rfl (WL1.give rfl (g_indexAddr (sz := 1) rfl (.mk rfl rfl) (.mk rfl rfl) rfl rfl (show _ = ((0 : Nat) : Int) from rfl) (by omega) (fun _ _ => sl_some hs (by omega))) ?_)
      refine WL.wantG rfl rfl rfl rfl (WL1.give rfl (g_load rfl (.mk rfl rfl) rfl (rd_sl hs (get1 (by omega)))) ?_)
      refine WL.wantG rfl rfl rfl rfl (WL1.give rfl (g_len rfl (.mk rfl rfl) rfl) ?_)
      refine WL.wantG rfl rfl rfl rfl (WL1.give rfl (g_gt rfl (.mk rfl rfl) (.mk rfl rfl) (decide_eq_false (by omega))) ?_)
      refine wG rfl rfl (g_pickF rfl (.mk rfl rfl) (.mk (v := .bool _) rfl rfl)) ?_
      refine WL.nil ?_
      (refine hK _ _ ?_; clear hK)
      refine WC.cond_false (.mk rfl rfl) ?_
      refine WC.skip ?_
      (refine hK _ _ ?_; clear hK)
      refine WC.seq fun K hK => ?_
      refine WC.seq fun K hK => ?_
      refine WC.region rfl ?_
      refine wG rfl rfl (g_move rfl (.mk (v := .slice _ _ _) rfl rfl)) ?_
      refine wG rfl rfl (g_len rfl (.mk rfl rfl) rfl) ?_
      refine wG rfl rfl (g_move rfl (.mk (v := .int _ _) rfl rfl)) ?_
      refine WL.nil ?_
      (refine hK _ _ ?_; clear hK)
      refine WC.block ?_
      refine WC.loop (2198486384660) (fun k : Nat => [(29, iv k)]) (fun _ => []) (fun k => k ≤ rs.length ∧ ∀ j, j < k → (nth rs j).l.length = (nth rs 0).l.length) (fun k => rs.length - k) 0 ⟨rfl, trivial⟩ (List.nil_sublist _) ⟨by omega, fun j hj => absurd hj (by omega)⟩ ?_
      rintro k U ⟨hk, hq⟩
      by_cases hlt : k < rs.length
      · by_cases he : (nth rs k).l.length = (nth rs 0).l.length
        · refine WC.seq fun K hK => ?_
          refine WC.region rfl ?_
          refine wG rfl rfl (g_lt rfl (.mk rfl rfl) (.mk rfl rfl) (decide_eq_true (by omega))) ?_
          refine WL.nil ?_
          (refine hK _ _ ?_; clear hK)
          refine WC.seq fun K hK => ?_
          refine WC.cond_true (.mk rfl rfl) ?_
          refine WC.skip ?_
          (refine hK _ _ ?_; clear hK)
          refine WC.seq fun K hK => ?_
          refine WC.block ?_
          refine WC.seq fun K hK => ?_
          refine WC.region rfl ?_
          refine wG rfl rfl (g_indexAddr (sz := 1) rfl (.mk rfl rfl) (.mk rfl rfl) rfl rfl rfl (by omega) (fun _ _ => sl_some hs (by omega))) ?_
          refine wG rfl rfl (g_load rfl (.mk rfl rfl) rfl (rd_sl hs (get1 (by omega)))) ?_
          refine wG rfl rfl (g_assign rfl (.mk (v := .slice _ _ _) rfl rfl)) ?_
          refine WL.nil ?_
          (refine hK _ _ ?_; clear hK)
          refine WC.seq fun K hK => ?_
          refine WC.region rfl ?_
          refine wG rfl rfl (g_move rfl (.mk (v := .slice _ _ _) rfl rfl)) ?_
          refine wG rfl rfl (g_len rfl (.mk rfl rfl) rfl) ?_
          refine wG rfl rfl (g_move rfl (.mk (v := .slice _ _ _) rfl rfl)) ?_
          refine wG rfl rfl (g_indexAddr (sz := 1) rfl (.mk rfl rfl) (.mk rfl rfl) rfl rfl (show _ = ((0 : Nat) : Int) from rfl) (by omega) (fun _ _ => sl_some hs (by omega))) ?_
          refine wG rfl rfl (g_load rfl (.mk rfl rfl) rfl (rd_sl hs (get1 (by omega)))) ?_
          refine wG rfl rfl (g_len rfl (.mk rfl rfl) rfl) ?_
          refine wG rfl rfl (g_ne rfl (.mk rfl rfl) (.mk rfl rfl) (decide_eq_false (by omega))) ?_
          refine WL.nil ?_
          (refine hK _ _ ?_; clear hK)
          refine WC.cond_false (.mk rfl rfl) ?_
          refine WC.skip ?_
          (refine hK _ _ ?_; clear hK)
          refine WC.region rfl ?_
          refine wG rfl rfl (g_add rfl (.mk rfl rfl) (.mk rfl rfl) (IntWalk.i64_in _ (by omega))) ?_
          refine wG rfl rfl (g_move rfl (.mk (v := .int _ _) rfl rfl)) ?_
          refine WL.nil ?_
          refine ⟨k + 1, (by repeat (first | with_reducible exact Out.refl _ _ | refine Out.set rfl ?_ | refine Out.put rfl ?_ | refine Out.sets rfl ?_ | refine Out.hav rfl ?_ | exact Out.refl _ _)), ⟨rfl, trivial⟩, .refl _, ⟨by omega, fun j hj => ?_⟩, by omega⟩
          by_cases e : j = k
          · rw [e]; exact he
          · exact hq j (by omega)
        · refine WC.seq fun K hK => ?_
          refine WC.region rfl ?_
          refine wG rfl rfl (g_lt rfl (.mk rfl rfl) (.mk rfl rfl) (decide_eq_true (by omega))) ?_
          refine WL.nil ?_
          (refine hK _ _ ?_; clear hK)
          refine WC.seq fun K hK => ?_
          refine WC.cond_true (.mk rfl rfl) ?_
          refine WC.skip ?_
          (refine hK _ _ ?_; clear hK)
          refine WC.seq fun K hK => ?_
          refine WC.block ?_
          refine WC.seq fun K hK => ?_
          refine WC.region rfl ?_
          refine wG rfl rfl (g_indexAddr (sz := 1) rfl (.mk rfl rfl) (.mk rfl rfl) rfl rfl rfl (by omega) (fun _ _ => sl_some hs (by omega))) ?_
          refine wG rfl rfl (g_load rfl (.mk rfl rfl) rfl (rd_sl hs (get1 (by omega)))) ?_
          refine wG rfl rfl (g_assign rfl (.mk (v := .slice _ _ _) rfl rfl)) ?_
          refine WL.nil ?_
          (refine hK _ _ ?_; clear hK)
          refine WC.seq fun K hK => ?_
          refine WC.region rfl ?_
          refine wG rfl rfl (g_move rfl (.mk (v := .slice _ _ _) rfl rfl)) ?_
          refine wG rfl rfl (g_len rfl (.mk rfl rfl) rfl) ?_
          refine wG rfl rfl (g_move rfl (.mk (v := .slice _ _ _) rfl rfl)) ?_
          refine wG rfl rfl (g_indexAddr (sz := 1) rfl (.mk rfl rfl) (.mk rfl rfl) rfl rfl (show _ = ((0 : Nat) : Int) from rfl) (by omega) (fun _ _ => sl_some hs (by omega))) ?_
          refine wG rfl rfl (g_load rfl (.mk rfl rfl) rfl (rd_sl hs (get1 (by omega)))) ?_
          refine wG rfl rfl (g_len rfl (.mk rfl rfl) rfl) ?_
          refine wG rfl rfl (g_ne rfl (.mk rfl rfl) (.mk rfl rfl) (decide_eq_true (by omega))) ?_
          refine WL.nil ?_
          (refine hK _ _ ?_; clear hK)
          refine WC.cond_true (.mk rfl rfl) ?_
          refine WC.seq fun K hK => ?_
          refine WC.region rfl ?_
          refine wG rfl rfl (g_assign rfl (.mk (v := .bool _) rfl rfl)) ?_
          refine WL.nil ?_
          (refine hK _ _ ?_; clear hK)
          refine WC.ret ?_
          exact fun w' hw' => ⟨by rw [goodB_no fun h => he (h.row hlt)]; rfl, hw'.1⟩
      · obtain rfl : k = rs.length := by omega
        refine WC.seq fun K hK => ?_
        refine WC.region rfl ?_
        refine wG rfl rfl (g_lt rfl (.mk rfl rfl) (.mk rfl rfl) (decide_eq_false (by omega))) ?_
        refine WL.nil ?_
        (refine hK _ _ ?_; clear hK)
        refine WC.seq fun K hK => ?_
        refine WC.cond_false (.mk rfl rfl) ?_
        refine WC.exit ?_
        (clear hK; refine hK _ _ ?_; clear hK)
        refine WC.seq fun K hK => ?_
        refine WC.region rfl ?_
        refine wG rfl rfl (g_assign rfl (.mk (v := .bool _) rfl rfl)) ?_
        refine WL.nil ?_
        (refine hK _ _ ?_; clear hK)
        refine WC.ret ?_
        exact fun w' hw' => ⟨by rw [goodB_iff.2 (good_of h1 h2 h3 h4 hq)]; rfl, hw'.1⟩
    · have hn : goodB (els rs) = false := goodB_no fun h => h0 ⟨h.parts.2.2.1, h.parts.2.2.2⟩
      refine calls_wc (args := [.slice A rs.length c]) [2] [] Try.func99 rfl Try.ntmps99 rfl rfl rfl rfl (H.refl w) ?_
      refine WC.seq fun K hK => ?_
      refine WC.region rfl ?_
      refine wG rfl rfl (g_assign rfl (.mk (v := .bool _) rfl rfl)) ?_
      refine WL.nil ?_
      (refine hK _ _ ?_; clear hK)
      refine WC.seq fun K hK => ?_
      refine WC.seq fun K hK => ?_
      refine WC.region rfl ?_
      refine wG rfl rfl (g_move rfl (.mk (v := .slice _ _ _) rfl rfl)) ?_
      refine wG rfl rfl (g_len rfl (.mk rfl rfl) rfl) ?_
      refine wG rfl rfl (g_lt rfl (.mk rfl rfl) (.mk rfl rfl) (decide_eq_false (by omega))) ?_
      refine wG rfl rfl (g_move rfl (.mk (v := .bool _) rfl rfl)) ?_
      refine WL.wantG rfl rfl rfl rfl (WL1.give rfl (g_move rfl (.mk (v := .slice _ _ _) rfl rfl)) ?_)
      refine WL.wantG rfl rfl rfl rfl (WL1.give rfl (g_len rfl (.mk rfl rfl) rfl) ?_)
      refine WL.wantG rfl rfl rfl rfl (WL1.give rfl (g_gt rfl (.mk rfl rfl) (.mk rfl rfl) (decide_eq_false (by omega))) ?_)
      refine wG rfl rfl (g_pickF rfl (.mk rfl rfl) (.mk (v := .bool _) rfl rfl)) ?_
      refine wG rfl rfl (g_move rfl (.mk (v := .bool _) rfl rfl)) ?_
      refine WL.wantG rfl rfl rfl rfl (WL1.give rfl (g_move rfl (.mk (v := .slice _ _ _) rfl rfl)) ?_)
      refine WL.wantG rfl rfl rfl rfl (WL1.give rfl (g_indexAddr (sz := 1) rfl (.mk rfl rfl) (.mk rfl rfl) rfl rfl (show _ = ((0 : Nat) : Int) from rfl) (by omega) (fun _ _ => sl_some hs (by omega))) ?_)
      refine WL.wantG rfl rfl rfl rfl (WL1.give rfl (g_load rfl (.mk rfl rfl) rfl (rd_sl hs (get1 (by omega)))) ?_)
      refine WL.wantG rfl rfl rfl rfl (WL1.give rfl (g_len rfl (.mk rfl rfl) rfl) ?_)
      refine WL.wantG rfl rfl rfl rfl (WL1.giveD rfl (g_lt rfl (.mk rfl rfl) (.mk rfl rfl) rfl) (fun _ => ?_) (fun _ => ?_))
      refine wG rfl rfl (g_pickF rfl (.mk rfl rfl) (.mk (v := .bool _) rfl rfl)) ?_
      refine wG rfl rfl (g_move rfl (.mk (v := .bool _) rfl rfl)) ?_
      refine WL.skipG rfl rfl rfl rfl rfl rfl ?_
      refine WL.skipG rfl rfl rfl rfl rfl rfl ?_
      refine WL.skipG rfl rfl rfl rfl rfl rfl ?_
      refine WL.skipG rfl rfl rfl rfl rfl rfl ?_
      refine WL.skipG rfl rfl rfl rfl rfl rfl ?_
      refine wG rfl rfl (g_pickT rfl (.mk rfl rfl) (.mk (v := .bool _) rfl rfl)) ?_
      refine WL.nil ?_
      (refine hK _ _ ?_; clear hK)
      refine WC.cond_true (.mk rfl rfl) ?_
      refine WC.seq fun K hK => ?_
      refine WC.region rfl ?_
      refine wG rfl rfl (g_assign rfl (.mk (v := .bool _) rfl rfl)) ?_
      refine WL.nil ?_
      (refine hK _ _ ?_; clear hK)
      refine WC.ret ?_
      rotate_left
      refine wG rfl rfl (g_pickF rfl (.mk rfl rfl) (.mk (v := .bool _) rfl rfl)) ?_
      refine wG rfl rfl (g_move rfl (.mk (v := .bool _) rfl rfl)) ?_
      refine WL.wantG rfl rfl rfl rfl (WL1.give rfl (g_move rfl (.mk (v := .slice _ _ _) rfl rfl)) ?_)
      refine WL.wantG rfl rfl rfl rfl (WL1.give rfl (g_indexAddr (sz := 1) rfl (.mk rfl rfl) (.mk rfl rfl) rfl rfl (show _ = ((0 : Nat) : Int) from rfl) (by omega) (fun _ _ => sl_some hs (by omega))) ?_)
      refine WL.wantG rfl rfl rfl rfl (WL1.give rfl (g_load rfl (.mk rfl rfl) rfl (rd_sl hs (get1 (by omega)))) ?_)
      refine WL.wantG rfl rfl rfl rfl (WL1.give rfl (g_len rfl (.mk rfl rfl) rfl) ?_)
      refine WL.wantG rfl rfl rfl rfl (WL1.give rfl (g_gt rfl (.mk rfl rfl) (.mk rfl rfl) (decide_eq_true (by omega))) ?_)
      refine wG rfl rfl (g_pickF rfl (.mk rfl rfl) (.mk (v := .bool _) rfl rfl)) ?_
      refine WL.nil ?_
      (refine hK _ _ ?_; clear hK)
      refine WC.cond_true (.mk rfl rfl) ?_
      refine WC.seq fun K hK => ?_
      refine WC.region rfl ?_
      refine wG rfl rfl (g_assign rfl (.mk (v := .bool _) rfl rfl)) ?_
      refine WL.nil ?_
      (refine hK _ _ ?_; clear hK)
      refine WC.ret ?_
      rotate_left
      all_goals exact fun w' hw' => ⟨by rw [hn]; rfl, hw'.1⟩
  · have hn : goodB (els rs) = false := goodB_no fun h => h0 ⟨h.parts.1, h.parts.2.1⟩
    refine calls_wc (args := [.slice A rs.length c]) [2] [] Try.func99 rfl Try.ntmps99 rfl rfl rfl rfl (H.refl w) ?_
    refine WC.seq fun K hK => ?_
    refine WC.region rfl ?_
    refine wG rfl rfl (g_assign rfl (.mk (v := .bool _) rfl rfl)) ?_
    refine WL.nil ?_
    (refine hK _ _ ?_; clear hK)
    refine WC.seq fun K hK => ?_
    refine WC.seq fun K hK => ?_
    refine WC.region rfl ?_
    refine wG rfl rfl (g_move rfl (.mk (v := .slice _ _ _) rfl rfl)) ?_
    refine wG rfl rfl (g_len rfl (.mk rfl rfl) rfl) ?_
    refine WL.want rfl (WL1.giveD rfl (g_lt rfl (.mk rfl rfl) (.mk rfl rfl) rfl) (fun _ => ?_) (fun _ => ?_))
    refine wG rfl rfl (g_move rfl (.mk (v := .bool _) rfl rfl)) ?_
    refine WL.skipG rfl rfl rfl rfl rfl rfl ?_
    refine WL.skipG rfl rfl rfl rfl rfl rfl ?_
    refine WL.skipG rfl rfl rfl rfl rfl rfl ?_
    refine wG rfl rfl (g_pickT rfl (.mk rfl rfl) (.mk (v := .bool _) rfl rfl)) ?_
    refine wG rfl rfl (g_move rfl (.mk (v := .bool _) rfl rfl)) ?_
    refine WL.skipG rfl rfl rfl rfl rfl rfl ?_
    refine WL.skipG rfl rfl rfl rfl rfl rfl ?_
    refine WL.skipG rfl rfl rfl rfl rfl rfl ?_
    refine WL.skipG rfl rfl rfl rfl rfl rfl ?_
    refine WL.skipG rfl rfl rfl rfl rfl rfl ?_
    refine wG rfl rfl (g_pickT rfl (.mk rfl rfl) (.mk (v := .bool _) rfl rfl)) ?_
    refine wG rfl rfl (g_move rfl (.mk (v := .bool _) rfl rfl)) ?_
    refine WL.skipG rfl rfl rfl rfl rfl rfl ?_
    refine WL.skipG rfl rfl rfl rfl rfl rfl ?_
    refine WL.skipG rfl rfl rfl rfl rfl rfl ?_
    refine WL.skipG rfl rfl rfl rfl rfl rfl ?_
    refine WL.skipG rfl rfl rfl rfl rfl rfl ?_
    refine wG rfl rfl (g_pickT rfl (.mk rfl rfl) (.mk (v := .bool _) rfl rfl)) ?_
    refine WL.nil ?_
    (refine hK _ _ ?_; clear hK)
    refine WC.cond_true (.mk rfl rfl) ?_
    refine WC.seq fun K hK => ?_
    refine WC.region rfl ?_
    refine wG rfl rfl (g_assign rfl (.mk (v := .bool _) rfl rfl)) ?_
    refine WL.nil ?_
    (refine hK _ _ ?_; clear hK)
    refine WC.ret ?_
    rotate_left
    refine wG rfl rfl (g_move rfl (.mk (v := .bool _) rfl rfl)) ?_
    refine WL.wantG rfl rfl rfl rfl (WL1.give rfl (g_move rfl (.mk (v := .slice _ _ _) rfl rfl)) ?_)
    refine WL.wantG rfl rfl rfl rfl (WL1.give rfl (g_len rfl (.mk rfl rfl) rfl) ?_)
    refine WL.wantG rfl rfl rfl rfl (WL1.give rfl (g_gt rfl (.mk rfl rfl) (.mk rfl rfl) (decide_eq_true (by omega))) ?_)
    refine wG rfl rfl (g_pickF rfl (.mk rfl rfl) (.mk (v := .bool _) rfl rfl)) ?_
    refine wG rfl rfl (g_move rfl (.mk (v := .bool _) rfl rfl)) ?_
    refine WL.skipG rfl rfl rfl rfl rfl rfl ?_
    refine WL.skipG rfl rfl rfl rfl rfl rfl ?_
    refine WL.skipG rfl rfl rfl rfl rfl rfl ?_
    refine WL.skipG rfl rfl rfl rfl rfl rfl ?_
    refine WL.skipG rfl rfl rfl rfl rfl rfl ?_
    refine wG rfl rfl (g_pickT rfl (.mk rfl rfl) (.mk (v := .bool _) rfl rfl)) ?_
    refine wG rfl rfl (g_move rfl (.mk (v := .bool _) rfl rfl)) ?_
    refine WL.skipG rfl rfl rfl rfl rfl rfl ?_
    refine WL.skipG rfl rfl rfl rfl rfl rfl ?_
    refine WL.skipG rfl rfl rfl rfl rfl rfl ?_
    refine WL.skipG rfl rfl rfl rfl rfl rfl ?_
    refine WL.skipG rfl rfl rfl rfl rfl rfl ?_
    refine wG rfl rfl (g_pickT rfl (.mk rfl rfl) (.mk (v := .bool _) rfl rfl)) ?_
    refine WL.nil ?_
    (refine hK _ _ ?_; clear hK)
    refine WC.cond_true (.mk rfl rfl) ?_
    refine WC.seq fun K hK => ?_
    refine WC.region rfl ?_
    refine wG rfl rfl (g_assign rfl (.mk (v := .bool _) rfl rfl)) ?_
    refine WL.nil ?_
    (refine hK _ _ ?_; clear hK)
    refine WC.ret ?_
    rotate_left
    all_goals exact fun w' hw' => ⟨by rw [hn]; rfl, hw'.1⟩
theorem fused_n (v1 v2 : Value) (dst src : List G) (c : G) (w : World) (h1 : Sl w 1 v1 dst.length (bvs dst)) (h2 : Sl w 1 v2 src.length (bvs src)) (hlen : dst.length = src.length) (hsz : dst.length ≤ 1000000) :
    Calls Try.prog 104 #[v1, v2, bv c] w fun e w' => ∃ v M, e = .returned v ∧ H w M w' ∧ ∃ A cc, v = .tuple #[.slice A dst.length cc, iv 0] ∧ M = [vec A dst.length cc 5 1 (bvs (gfused dst src c))] :=
  (fused_any v1 v2 dst src c w hlen hsz h1 h2).mono fun e w' ⟨v, he, ho, hb⟩ => by
    obtain ⟨A, cc, rfl, hH⟩ := own_n ho hb
    exact ⟨_, _, he, hH, A, cc, rfl, rfl⟩
def zrow (c : Nat) : List G := List.replicate c 0
theorem els_set {rs : List Row} {k : Nat} (r : Row) : els (rs.set k r) = (els rs).set k r.l := List.map_set
theorem rowsv_put {rs : List Row} {k j : Nat} {x : G} (hk : k < rs.length) : (rs.set k ((nth rs k).put j x)).map Row.v = rs.map Row.v := by
  rw [List.map_set, Row.put_v]
  refine list_ext_nth' ?_
  intro j
  by_cases e : j = k
  · subst e; rw [List.getElem?_set_self (by simpa using hk), List.getElem?_map, nth_get hk]; rfl
  · rw [List.getElem?_set_ne (fun h => e h.symm)]
where
  list_ext_nth' {l m : List Value} (h : ∀ i : Nat, l[i]? = m[i]?) : l = m := List.ext_getElem? h
end Go.Proofs.Ytnkbnponpknokaa
namespace Go.Proofs.Ytnkbnponpknokaa
set_option maxRecDepth 20000
open Go.RowKit
attribute [local irreducible] Calls
abbrev matM (A : Option Addr) (c : Nat) (rs : List Row) : List Asrt := [vec A rs.length c 111 1 (rs.map Row.v), rowsA rs]
theorem nilrow_set (rs : List Row) (r : Row) {n k : Nat} (h : rs.length = k) (hk : k < n) {i : Nat} (hi : i = k * 1) : (rs.map Row.v ++ List.replicate (n - k) (Value.slice none 0 0)).set i r.v = (rs ++ [r]).map Row.v ++ List.replicate (n - (k + 1)) (Value.slice none 0 0) := by
  rw [hi, Nat.mul_one, List.set_append_right _ _ (by rw [List.length_map]; omega), List.length_map, h, Nat.sub_self, show n - k = (n - (k + 1)) + 1 from by omega, List.replicate_succ, List.set_cons_zero, List.map_append, List.append_assoc]
  rfl
theorem els_add (rs : List Row) (r : Row) : els (rs ++ [r]) = els rs ++ [r.l] := by simp [els]
theorem zrow_own (b c : Nat) : (⟨some ⟨b, 0, none⟩, c, zrow c⟩ : Row).own = vec (some ⟨b, 0, none⟩) c c 5 1 (bvs (zrow c)) := by
  show vec _ (zrow c).length c _ _ _ = _
  rw [zrow, List.length_replicate]
theorem zrow_v (b c : Nat) : (⟨some ⟨b, 0, none⟩, c, zrow c⟩ : Row).v = .slice (some ⟨b, 0, none⟩) c c := by
  show Value.slice _ (zrow c).length c = _
  rw [zrow, List.length_replicate]
set_option maxHeartbeats 1000000 in
theorem blank_n (n c : Nat) (w : World) (hn : n ≤ 1000) (hc : c ≤ 1000) : Calls Try.prog 100 #[iv n, iv c] w fun e w' => ∃ v' M, e = .returned v' ∧ H w M w' ∧
    ∃ A cc rs, v' = .slice A rs.length cc ∧ M = matM A cc rs ∧ els rs = List.replicate n (zrow c) ∧ rs.length = n := by
  refine calls_wc (args := [iv n, iv c]) [4] [] Try.func100 rfl Try.ntmps100 rfl rfl rfl rfl (H.refl w) ?_
  refine WC.seq fun K hK => ?_
  refine WC.region rfl ?_
  refine wG rfl rfl (g_assign rfl (.mk (v := .slice _ _ _) rfl rfl)) ?_
  refine WL.nil ?_
  (refine hK _ _ ?_; clear hK)
  refine WC.seq fun K hK => ?_
  refine WC.region rfl ?_
  refine wG rfl rfl (g_move rfl (.mk (v := .int _ _) rfl rfl)) ?_
  refine WL.want rfl (WL1.make elR rfl rfl (.mk rfl rfl) (.mk rfl rfl) rfl rfl (by omega) (by unfold maxLen; omega) (fun b8 => ?_))
  refine wG rfl rfl (g_assign rfl (.mk (v := .slice _ _ _) rfl rfl)) ?_
  refine WL.nil ?_
  (refine hK _ _ ?_; clear hK)
  refine WC.seq fun K hK => ?_
  refine WC.seq fun K hK => ?_
  refine WC.region rfl ?_
  refine wG rfl rfl (g_move rfl (.mk (v := .slice _ _ _) rfl rfl)) ?_
  refine wG rfl rfl (g_len rfl (.mk rfl rfl) rfl) ?_
  refine wG rfl rfl (g_move rfl (.mk (v := .int _ _) rfl rfl)) ?_
  refine WL.nil ?_
  (refine hK _ _ ?_; clear hK)
  refine WC.block ?_
  refine WC.loopI2 (1046592) (fun (k : Nat) (rs : List Row) => [(11, iv k)]) (fun k rs => [vec (some ⟨b8, 0, none⟩) n n 111 1 (rs.map Row.v ++ List.replicate (n - k) (Value.slice none 0 0)), rowsA rs]) (fun k rs => k ≤ n ∧ rs.length = k ∧ els rs = List.replicate k (zrow c)) (fun k _ => n - k) 0 [] ⟨rfl, trivial⟩ ?_ ⟨by omega, rfl, rfl⟩ ?_
  · refine Imp.trans ?_ (Imp.cons (Imp.rows_nil []))
    rw [show (Value.slice none 0 0).cells = #[.slice none 0 0] from rfl, made_one]
    exact .refl _
  · rintro k rs U ⟨hk, hrl, hre⟩
    have hll : (rs.map Row.v ++ List.replicate (n - k) (Value.slice none 0 0)).length = n := by simp; omega
    by_cases hlt : k < n
    · refine WC.seq fun K hK => ?_
      refine WC.region rfl ?_
      refine wG rfl rfl (g_lt rfl (.mk rfl rfl) (.mk rfl rfl) (decide_eq_true (by omega))) ?_
      refine WL.nil ?_
      (refine hK _ _ ?_; clear hK)
      refine WC.seq fun K hK => ?_
      refine WC.cond_true (.mk rfl rfl) ?_
      refine WC.skip ?_
      (refine hK _ _ ?_; clear hK)
      refine WC.seq fun K hK => ?_
      refine WC.block ?_
      refine WC.seq fun K hK => ?_
      refine WC.region rfl ?_
      refine wG rfl rfl (g_move rfl (.mk (v := .int _ _) rfl rfl)) ?_
      refine wG rfl rfl (g_assign rfl (.mk (v := .int _ _) rfl rfl)) ?_
      refine WL.nil ?_
      (refine hK _ _ ?_; clear hK)
      refine WC.region rfl ?_
      refine wG rfl rfl (g_move rfl (.mk (v := .slice _ _ _) rfl rfl)) ?_
      refine wG rfl rfl (g_move rfl (.mk (v := .int _ _) rfl rfl)) ?_
      refine wG rfl rfl (g_move rfl (.mk (v := .int _ _) rfl rfl)) ?_
      refine WL.want rfl (WL1.make elB rfl rfl (.mk rfl rfl) (.mk rfl rfl) rfl rfl (by omega) (by unfold maxLen; omega) (fun b17 => ?_))
      refine wG rfl rfl (g_indexAddr (sz := 1) rfl (.mk rfl rfl) (.mk rfl rfl) rfl rfl rfl (by omega) (fun _ _ => rfl)) ?_
      refine WL.want rfl (WL1.storeV1 rfl rfl (.mk rfl rfl) (.mk (v := .slice _ _ _) rfl rfl) rfl rfl (by first | omega | (simp; done) | (simp; omega)) (.tail (.head)) ?_)
      refine WL.nil ?_
      (refine hK _ _ ?_; clear hK)
      refine WC.region rfl ?_
      refine wG rfl rfl (g_add rfl (.mk rfl rfl) (.mk rfl rfl) (IntWalk.i64_in _ (by omega))) ?_
      refine wG rfl rfl (g_move rfl (.mk (v := .int _ _) rfl rfl)) ?_
      refine WL.nil ?_
      refine ⟨k + 1, rs ++ [⟨some ⟨b17, 0, none⟩, c, zrow c⟩], (by repeat (first | with_reducible exact Out.refl _ _ | refine Out.set rfl ?_ | refine Out.put rfl ?_ | refine Out.sets rfl ?_ | refine Out.hav rfl ?_ | exact Out.refl _ _)), ⟨rfl, trivial⟩, ?_, ⟨by omega, by simp [hrl], by rw [els_add, hre, List.replicate_succ']⟩, by omega⟩
      rw [← nilrow_set rs ⟨some ⟨b17, 0, none⟩, c, zrow c⟩ hrl hlt rfl, zrow_v]
      refine Imp.add2 ?_ (.tail .head)
      rw [zrow_own, zrow, ← madeU]
      exact .head
    · obtain rfl : k = n := by omega
      refine WC.seq fun K hK => ?_
      refine WC.region rfl ?_
      refine wG rfl rfl (g_lt rfl (.mk rfl rfl) (.mk rfl rfl) (decide_eq_false (by omega))) ?_
      refine WL.nil ?_
      (refine hK _ _ ?_; clear hK)
      refine WC.seq fun K hK => ?_
      refine WC.cond_false (.mk rfl rfl) ?_
      refine WC.exit ?_
      (clear hK; refine hK _ _ ?_; clear hK)
      refine WC.seq fun K hK => ?_
      refine WC.region rfl ?_
      refine wG rfl rfl (g_move rfl (.mk (v := .slice _ _ _) rfl rfl)) ?_
      refine wG rfl rfl (g_assign rfl (.mk (v := .slice _ _ _) rfl rfl)) ?_
      refine WL.nil ?_
      (refine hK _ _ ?_; clear hK)
      refine WC.ret ?_
      exact fun w' hw' => ⟨_, _, rfl, hw', some ⟨b8, 0, none⟩, k, rs, by rw [hrl]; rfl, by rw [Nat.sub_self, List.replicate_zero, List.append_nil, matM, hrl], hre, hrl⟩
def idM (n : Nat) : List (List G) := (List.range n).map fun i => (List.range n).map fun k => dlt i k
def idP (n k : Nat) : List (List G) := (List.range n).map fun i => if i < k then (List.range n).map fun k => dlt i k else zrow n
theorem idP_zero (n : Nat) : idP n 0 = List.replicate n (zrow n) := by
  refine List.ext_getElem (by simp [idP]) fun i h1 h2 => ?_
  simp [idP]
theorem idP_all (n : Nat) : idP n n = idM n := List.map_congr_left fun i hi => if_pos (by simpa using hi)
theorem idP_len (n k : Nat) : (idP n k).length = n := by simp [idP]
theorem zrow_nth {c j : Nat} (h : j < c) : nth (zrow c) j = 0 := by rw [nth_eq (by simpa [zrow] using h)]; simp [zrow]
theorem zrow_len (c : Nat) : (zrow c).length = c := by simp [zrow]
theorem unit_row {n k : Nat} (h : k < n) : (zrow n).set k 1 = (List.range n).map fun j => dlt k j :=
  list_ext_nth (by rw [List.length_set, zrow_len]; simp) fun j hj => by
    rw [List.length_set, zrow_len] at hj
    rw [nth_range _ hj, nth_put (by rw [zrow_len]; exact h)]
    by_cases e : j = k
    · rw [if_pos e, e, dlt_self]
    · rw [if_neg e, zrow_nth hj, dlt_ne (fun h => e h.symm)]
theorem idP_row {n k : Nat} (h : k < n) : nth (idP n k) k = zrow n := by rw [idP, nth_range _ h, if_neg (by omega)]
theorem idP_set {n k : Nat} (h : k < n) : (idP n k).set k ((zrow n).set k 1) = idP n (k + 1) :=
  list_ext_nth (by rw [List.length_set, idP_len, idP_len]) fun j hj => by
    rw [List.length_set, idP_len] at hj
    rw [nth_put (by rw [idP_len]; exact h), unit_row h, idP, idP, nth_range _ hj, nth_range _ hj]
    by_cases e : j = k
    · subst e; rw [if_pos rfl, if_pos (by omega)]
    · rw [if_neg e]
      by_cases e2 : j < k
      · rw [if_pos e2, if_pos (by omega)]
      · rw [if_neg e2, if_neg (by omega)]
theorem els_row {rs : List Row} {m : List (List G)} (h : els rs = m) {k : Nat} (hk : k < rs.length) : (nth rs k).l = nth m k := by rw [← h, els_at hk]
theorem put_els {rs : List Row} {k j : Nat} {x : G} (hk : k < rs.length) : els (rs.set k ((nth rs k).put j x)) = (els rs).set k ((nth (els rs) k).set j x) := by rw [els_set, els_at hk]; rfl
set_option maxHeartbeats 1000000 in
theorem identity_n (n : Nat) (w : World) (h1 : 1 ≤ n) (h2 : n ≤ 64) : Calls Try.prog 97 #[iv n] w fun e w' => ∃ v' M, e = .returned v' ∧ H w M w' ∧
    ∃ A cc rs, v' = .tuple #[.slice A rs.length cc, iv 0] ∧ M = matM A cc rs ∧ els rs = idM n ∧ rs.length = n := by
  refine calls_wc (args := [iv n]) [2, 3] [] Try.func97 rfl Try.ntmps97 rfl rfl rfl rfl (H.refl w) ?_
  refine WC.seq fun K hK => ?_
  refine WC.region rfl ?_
  refine wG rfl rfl (g_assign rfl (.mk (v := .slice _ _ _) rfl rfl)) ?_
  refine wG rfl rfl (g_assign rfl (.mk (v := .int _ _) rfl rfl)) ?_
  refine WL.nil ?_
  (refine hK _ _ ?_; clear hK)
  refine WC.seq fun K hK => ?_
  refine WC.seq fun K hK => ?_
  refine WC.region rfl ?_
  refine wG rfl rfl (g_move rfl (.mk (v := .int _ _) rfl rfl)) ?_
  refine wG rfl rfl (g_lt rfl (.mk rfl rfl) (.mk rfl rfl) (decide_eq_false (by omega))) ?_
  refine wG rfl rfl (g_move rfl (.mk (v := .bool _) rfl rfl)) ?_
  refine WL.wantG rfl rfl rfl rfl (WL1.give rfl (g_move rfl (.mk (v := .int _ _) rfl rfl)) ?_)
  refine WL.wantG rfl rfl rfl rfl (WL1.give rfl (g_gt rfl (.mk rfl rfl) (.mk rfl rfl) (decide_eq_false (by omega))) ?_)
  refine wG rfl rfl (g_pickF rfl (.mk rfl rfl) (.mk (v := .bool _) rfl rfl)) ?_
  refine WL.nil ?_
  (refine hK _ _ ?_; clear hK)
  refine WC.cond_false (.mk rfl rfl) ?_
  refine WC.skip ?_
  (refine hK _ _ ?_; clear hK)
  refine WC.seq fun K hK => ?_
  refine WC.region rfl ?_
  refine wG rfl rfl (g_move rfl (.mk (v := .int _ _) rfl rfl)) ?_
  refine wG rfl rfl (g_move rfl (.mk (v := .int _ _) rfl rfl)) ?_
  (refine WL.want rfl (WL1.callN rfl rfl rfl (.cons (.mk (v := .int _ _) rfl rfl) (.cons (.mk (v := .int _ _) rfl rfl) .nil)) (fun w hw => blank_n n n w (by omega) (by omega)) ?_); rintro _ _ ⟨A, cc, rs0, rfl, rfl, hre0, hrl0⟩)
  refine wG rfl rfl (g_assign rfl (.mk (v := .slice _ _ _) rfl rfl)) ?_
  refine WL.nil ?_
  (refine hK _ _ ?_; clear hK)
  refine WC.seq fun K hK => ?_
  refine WC.seq fun K hK => ?_
  refine WC.region rfl ?_
  refine wG rfl rfl (g_move rfl (.mk (v := .slice _ _ _) rfl rfl)) ?_
  refine wG rfl rfl (g_len rfl (.mk rfl rfl) rfl) ?_
  refine wG rfl rfl (g_move rfl (.mk (v := .int _ _) rfl rfl)) ?_
  refine WL.nil ?_
  (refine hK _ _ ?_; clear hK)
  refine WC.block ?_
  refine WC.loopI2 (134086688) (fun (k : Nat) (rs : List Row) => [(17, iv k)]) (fun k rs => [vec A rs0.length cc 111 1 (rs.map Row.v), rowsA rs]) (fun k rs => k ≤ n ∧ rs.length = n ∧ els rs = idP n k) (fun k _ => n - k) 0 rs0 ⟨rfl, trivial⟩ (by rw [List.append_nil]; exact .refl _) ⟨by omega, hrl0, by rw [hre0, idP_zero]⟩ ?_
  rintro k rs U ⟨hk, hrl, hre⟩
  by_cases hlt : k < n
  · have hrow := els_row hre (k := k) (by omega)
    rw [idP_row hlt] at hrow
    have hrl2 : (nth rs k).l.length = n := by rw [hrow, zrow_len]
    refine WC.seq fun K hK => ?_
    refine WC.region rfl ?_
    refine wG rfl rfl (g_lt rfl (.mk rfl rfl) (.mk rfl rfl) (decide_eq_true (by omega))) ?_
    refine WL.nil ?_
    (refine hK _ _ ?_; clear hK)
    refine WC.seq fun K hK => ?_
    refine WC.cond_true (.mk rfl rfl) ?_
    refine WC.skip ?_
    (refine hK _ _ ?_; clear hK)
    refine WC.seq fun K hK => ?_
    refine WC.block ?_
    refine WC.seq fun K hK => ?_
    refine WC.region rfl ?_
    refine wG rfl rfl (g_move rfl (.mk (v := .int _ _) rfl rfl)) ?_
    refine wG rfl rfl (g_assign rfl (.mk (v := .int _ _) rfl rfl)) ?_
    refine WL.nil ?_
    (refine hK _ _ ?_; clear hK)
    refine WC.region rfl ?_
    refine wG rfl rfl (g_move rfl (.mk (v := .slice _ _ _) rfl rfl)) ?_
    refine wG rfl rfl (g_move rfl (.mk (v := .int _ _) rfl rfl)) ?_
    refine wG rfl rfl (g_indexAddr (sz := 1) rfl (.mk rfl rfl) (.mk rfl rfl) rfl rfl rfl (by omega) (fun w hw => vec_some hw (.head _) (by omega))) ?_
    refine wG rfl rfl (g_load rfl (.mk rfl rfl) rfl (rd_vec (.head _) (get1 (by omega)))) ?_
    refine wG rfl rfl (g_move rfl (.mk (v := .int _ _) rfl rfl)) ?_
    refine wG rfl rfl (g_indexAddr (sz := 1) rfl (.mk rfl rfl) (.mk rfl rfl) rfl rfl rfl (by omega) (rowA_some (.tail _ (.head _)) (by omega) (by omega))) ?_
    refine WL.want rfl (WL1.storeRow (g := 1) rfl rfl (.mk rfl rfl) rfl rfl (.mk rfl rfl) rfl rfl (by omega) (by omega) (.tail (.head)) ?_)
    refine WL.nil ?_
    (refine hK _ _ ?_; clear hK)
    refine WC.region rfl ?_
    refine wG rfl rfl (g_add rfl (.mk rfl rfl) (.mk rfl rfl) (IntWalk.i64_in _ (by omega))) ?_
    refine wG rfl rfl (g_move rfl (.mk (v := .int _ _) rfl rfl)) ?_
    refine WL.nil ?_
    refine ⟨k + 1, rs.set k ((nth rs k).put k 1), (by repeat (first | with_reducible exact Out.refl _ _ | refine Out.set rfl ?_ | refine Out.put rfl ?_ | refine Out.sets rfl ?_ | refine Out.hav rfl ?_ | exact Out.refl _ _)), ⟨rfl, trivial⟩, by rw [rowsv_put (by omega)]; exact .refl _, ⟨by omega, by rw [List.length_set, hrl], by rw [put_els (by omega), hre, idP_row hlt, idP_set hlt]⟩, by omega⟩
  · obtain rfl : k = n := by omega
    refine WC.seq fun K hK => ?_
    refine WC.region rfl ?_
    refine wG rfl rfl (g_lt rfl (.mk rfl rfl) (.mk rfl rfl) (decide_eq_false (by omega))) ?_
    refine WL.nil ?_
    (refine hK _ _ ?_; clear hK)
    refine WC.seq fun K hK => ?_
    refine WC.cond_false (.mk rfl rfl) ?_
    refine WC.exit ?_
    (clear hK; refine hK _ _ ?_; clear hK)
    refine WC.seq fun K hK => ?_
    refine WC.region rfl ?_
    refine wG rfl rfl (g_move rfl (.mk (v := .slice _ _ _) rfl rfl)) ?_
    refine wG rfl rfl (g_assign rfl (.mk (v := .slice _ _ _) rfl rfl)) ?_
    refine wG rfl rfl (g_assign rfl (.mk (v := .int _ _) rfl rfl)) ?_
    refine WL.nil ?_
    (refine hK _ _ ?_; clear hK)
    refine WC.ret ?_
    exact fun w' hw' => ⟨_, _, rfl, hw', A, cc, rs, by show Value.tuple #[.slice A rs0.length cc, iv 0] = _; rw [hrl, hrl0], by rw [matM, hrl, hrl0], by rw [hre, idP_all], hrl⟩
end Go.Proofs.Ytnkbnponpknokaa
namespace Go.Proofs.Ytnkbnponpknokaa
set_option maxRecDepth 20000
open Go.RowKit
attribute [local irreducible] Calls
def prg {α : Type} (n : Nat) (f : Nat → α) (z g : α) (i : Nat) : List α := (List.range n).map fun q => if q < i then f q else if q = i then g else z
section
variable {α : Type} {n i : Nat} {f : Nat → α} {z g g' : α}
theorem prg_len : (prg n f z g i).length = n := by simp [prg]
theorem prg_nth [Inhabited α] {q : Nat} (h : q < n) : nth (prg n f z g i) q = if q < i then f q else if q = i then g else z := nth_range _ h
theorem prg_at [Inhabited α] (h : i < n) : nth (prg n f z g i) i = g := by rw [prg_nth h, if_neg (by omega), if_pos rfl]
theorem prg_set [Inhabited α] (h : i < n) : (prg n f z g i).set i g' = prg n f z g' i :=
  list_ext_nth (by rw [List.length_set, prg_len, prg_len]) fun q hq => by
    rw [List.length_set, prg_len] at hq
    rw [nth_put (by rw [prg_len]; exact h), prg_nth hq, prg_nth hq]
    by_cases e : q = i
    · subst e; rw [if_pos rfl, if_neg (by omega), if_pos rfl]
    · rw [if_neg e, if_neg e, if_neg e]
theorem prg_next : prg n f z (f i) i = prg n f z z (i + 1) := List.map_congr_left fun q _ => by
  by_cases e : q < i
  · rw [if_pos e, if_pos (by omega)]
  · by_cases e2 : q = i
    · subst e2; rw [if_neg e, if_pos rfl, if_pos (by omega)]
    · rw [if_neg e, if_neg e2, if_neg (by omega)]
      by_cases e3 : q = i + 1
      · rw [if_pos e3]
      · rw [if_neg e3]
theorem prg_zero : List.replicate n z = prg n f z z 0 := by
  refine List.ext_getElem (by simp [prg]) fun q h1 h2 => ?_
  simp [prg]
theorem prg_all : prg n f z z n = (List.range n).map f := List.map_congr_left fun q hq => if_pos (by simpa using hq)
end
theorem gfused_map {dst src : List G} {n : Nat} (c : G) (h1 : dst.length = n) (h2 : src.length = n) : gfused dst src c = (List.range n).map fun j => nth dst j + c * nth src j :=
  list_ext_nth (by rw [gfused_length _ _ _ (by omega)]; simp [h1]) fun k hk => by
    rw [gfused_length _ _ _ (by omega)] at hk
    rw [nth_range _ (by omega), nth_eq hk, nth_eq (l := src) (by omega)]
    have := gfused_get dst src c k hk (by omega)
    unfold nth
    rw [List.getD_eq_getElem?_getD, this]; rfl
theorem own_of {A : Option Addr} {c m : Nat} {l : List G} (h : l.length = m) : vec A m c 5 1 (bvs l) = (⟨A, c, l⟩ : Row).own := by subst h; rfl
theorem v_of {A : Option Addr} {c m : Nat} {l : List G} (h : l.length = m) : Value.slice A m c = (⟨A, c, l⟩ : Row).v := by subst h; rfl
def el (m : List (List G)) (i j : Nat) : G := nth (nth m i) j
theorem el_row {rs : List Row} {i : Nat} (h : i < rs.length) (j : Nat) : nth (nth rs i).l j = el (els rs) i j := by rw [el, els_at h]
def dot (m : List (List G)) (v : List G) (i k : Nat) : G := gsum k fun j => el m i j * nth v j
def apM (m : List (List G)) (v : List G) : List G := (List.range m.length).map fun i => dot m v i v.length
theorem mul_c (a b : G) (w : World) : Calls Try.prog 82 #[bv a, bv b] w fun e w' => e = .returned (bv (a * b)) ∧ w' = w := (mul_any a b w).mono fun _ _ ⟨h1, h2⟩ => ⟨h1, h2.symm⟩
end Go.Proofs.Ytnkbnponpknokaa
namespace Go.Proofs.Ytnkbnponpknokaa
set_option maxRecDepth 20000
open Go.RowKit
attribute [local irreducible] Calls
def mrow (a b : List (List G)) (c i k : Nat) : List G := (List.range c).map fun j => gsum k fun n => el a i n * el b n j
theorem mrow_len (a b : List (List G)) (c i k : Nat) : (mrow a b c i k).length = c := by simp [mrow]
def mulM (a b : List (List G)) : List (List G) := (List.range a.length).map fun i => mrow a b (nth b 0).length i b.length
theorem mrow_zero (a b : List (List G)) (c i : Nat) : mrow a b c i 0 = zrow c := by
  refine list_ext_nth (by rw [mrow_len, zrow_len]) fun j hj => ?_
  rw [mrow_len] at hj
  rw [mrow, nth_range _ hj, zrow_nth hj]; rfl
theorem mrow_step {a b : List (List G)} {c i k : Nat} (hb : (nth b k).length = c) : gfused (mrow a b c i k) (nth b k) (el a i k) = mrow a b c i (k + 1) := by
  rw [gfused_map (n := c) _ (mrow_len _ _ _ _ _) hb]
  refine List.map_congr_left fun j hj => ?_
  have hj' : j < c := by simpa using hj
  rw [mrow, nth_range _ hj']; rfl
set_option maxHeartbeats 2000000 in
theorem mul_n (va vb : Value) (ra rb : List Row) (w : World) (ha : MatAt w va ra) (hb : MatAt w vb rb) (hg : Good (els ra)) (hgb : Good (els rb)) (hl : (nth ra 0).l.length = rb.length) :
    Calls Try.prog 94 #[va, vb] w fun e w' => ∃ v' M, e = .returned v' ∧ H w M w' ∧ ∃ A cc rs, v' = .tuple #[.slice A rs.length cc, iv 0] ∧ M = matM A cc rs ∧ els rs = mulM (els ra) (els rb) ∧ rs.length = ra.length := by
  obtain ⟨A, c, rfl, hc, hm, hs⟩ := ha.1.open_
  obtain ⟨A2, c2, rfl, hc2, hm2, hs2⟩ := hb.1.open_
  have hval := fun w' hb => valid_e _ ra w' (ha.below (w' := w') hb)
  have hval2 := fun w' hx => valid_e _ rb w' (hb.below (w' := w') hx)
  rw [goodB_iff.2 hg] at hval
  rw [goodB_iff.2 hgb] at hval2
  obtain ⟨g1, g2, g3, g4⟩ := hg.parts
  obtain ⟨q1, q2, q3, q4⟩ := hgb.parts
  refine calls_wc (args := [.slice A ra.length c, .slice A2 rb.length c2]) [4, 5] [] Try.func94 rfl Try.ntmps94 rfl rfl rfl rfl (H.refl w) ?_
  refine WC.seq fun K hK => ?_
  refine WC.region rfl ?_
  refine wG rfl rfl (g_assign rfl (.mk (v := .slice _ _ _) rfl rfl)) ?_
  refine wG rfl rfl (g_assign rfl (.mk (v := .int _ _) rfl rfl)) ?_
  refine WL.nil ?_
  (refine hK _ _ ?_; clear hK)
  refine WC.seq fun K hK => ?_
  refine WC.seq fun K hK => ?_
  refine WC.region rfl ?_
  refine wG rfl rfl (g_move rfl (.mk (v := .slice _ _ _) rfl rfl)) ?_
  refine WL.want rfl (WL1.callP rfl rfl rfl (.cons (.mk (v := .slice _ _ _) rfl rfl) .nil) (fun w hw => hval w hw.1) ?_)
  refine wG rfl rfl (g_notT rfl (.mk rfl rfl)) ?_
  refine wG rfl rfl (g_move rfl (.mk (v := .bool _) rfl rfl)) ?_
  refine WL.wantG rfl rfl rfl rfl (WL1.give rfl (g_move rfl (.mk (v := .slice _ _ _) rfl rfl)) ?_)
  refine WL.wantG rfl rfl rfl rfl (WL1.callP rfl rfl rfl (.cons (.mk (v := .slice _ _ _) rfl rfl) .nil) (fun w hw => hval2 w hw.1) ?_)
  refine WL.wantG rfl rfl rfl rfl (WL1.give rfl (g_notT rfl (.mk rfl rfl)) ?_)
  refine wG rfl rfl (g_pickF rfl (.mk rfl rfl) (.mk (v := .bool _) rfl rfl)) ?_
  refine wG rfl rfl (g_move rfl (.mk (v := .bool _) rfl rfl)) ?_
  refine WL.wantG rfl rfl rfl rfl (WL1.give rfl (g_move rfl (.mk (v := .slice _ _ _) rfl rfl)) ?_)
  refine WL.wantG rfl rfl rfl rfl (WL1.give rfl (g_indexAddr (sz := 1) rfl (.mk rfl rfl) (.mk rfl rfl) rfl rfl (show _ = ((0 : Nat) : Int) from rfl) (by omega) (fun _ _ => sl_some hs (by omega))) ?_)
  refine WL.wantG rfl rfl rfl rfl (WL1.give rfl (g_load rfl (.mk rfl rfl) rfl (rd_sl hs (get1 (by omega)))) ?_)
  refine WL.wantG rfl rfl rfl rfl (WL1.give rfl (g_len rfl (.mk rfl rfl) rfl) ?_)
  refine WL.wantG rfl rfl rfl rfl (WL1.give rfl (g_move rfl (.mk (v := .slice _ _ _) rfl rfl)) ?_)
  refine WL.wantG rfl rfl rfl rfl (WL1.give rfl (g_len rfl (.mk rfl rfl) rfl) ?_)
  refine WL.wantG rfl rfl rfl rfl (WL1.give rfl (g_ne rfl (.mk rfl rfl) (.mk rfl rfl) (decide_eq_false (by omega))) ?_)
  refine wG rfl rfl (g_pickF rfl (.mk rfl rfl) (.mk (v := .bool _) rfl rfl)) ?_
  refine WL.nil ?_
  (refine hK _ _ ?_; clear hK)
  refine WC.cond_false (.mk rfl rfl) ?_
  refine WC.skip ?_
  (refine hK _ _ ?_; clear hK)
  refine WC.seq fun K hK => ?_
  refine WC.region rfl ?_
  refine wG rfl rfl (g_move rfl (.mk (v := .slice _ _ _) rfl rfl)) ?_
  refine wG rfl rfl (g_len rfl (.mk rfl rfl) rfl) ?_
  refine wG rfl rfl (g_move rfl (.mk (v := .slice _ _ _) rfl rfl)) ?_
  refine wG rfl rfl (g_indexAddr (sz := 1) rfl (.mk rfl rfl) (.mk rfl rfl) rfl rfl (show _ = ((0 : Nat) : Int) from rfl) (by omega) (fun _ _ => sl_some hs2 (by omega))) ?_
  refine wG rfl rfl (g_load rfl (.mk rfl rfl) rfl (rd_sl hs2 (get1 (by omega)))) ?_
  refine wG rfl rfl (g_len rfl (.mk rfl rfl) rfl) ?_
  (refine WL.want rfl (WL1.callN rfl rfl rfl (.cons (.mk (v := .int _ _) rfl rfl) (.cons (.mk (v := .int _ _) rfl rfl) .nil)) (fun w hw => blank_n ra.length (nth rb 0).l.length w (by omega) (by omega)) ?_); rintro _ _ ⟨Ao, co, r0, rfl, rfl, hre0, hrl0⟩)
  refine wG rfl rfl (g_assign rfl (.mk (v := .slice _ _ _) rfl rfl)) ?_
  refine WL.nil ?_
  (refine hK _ _ ?_; clear hK)
  refine WC.seq fun K hK => ?_
  refine WC.seq fun K hK => ?_
  refine WC.region rfl ?_
  refine wG rfl rfl (g_move rfl (.mk (v := .slice _ _ _) rfl rfl)) ?_
  refine wG rfl rfl (g_len rfl (.mk rfl rfl) rfl) ?_
  refine wG rfl rfl (g_move rfl (.mk (v := .int _ _) rfl rfl)) ?_
  refine WL.nil ?_
  (refine hK _ _ ?_; clear hK)
  refine WC.block ?_
  obtain ⟨F, hF⟩ : ∃ F, F = fun i => mrow (els ra) (els rb) (nth rb 0).l.length i rb.length := ⟨_, rfl⟩
  obtain ⟨z, hz⟩ : ∃ z, z = zrow (nth rb 0).l.length := ⟨_, rfl⟩
  refine WC.loopI2 (147573952452237461376) (fun (i : Nat) (rs : List Row) => [(37, iv i)]) (fun i rs => [vec Ao r0.length co 111 1 (rs.map Row.v), rowsA rs]) (fun i rs => i ≤ ra.length ∧ rs.length = ra.length ∧ els rs = prg ra.length F z z i) (fun i _ => ra.length - i) 0 r0 ⟨rfl, trivial⟩ (by rw [List.append_nil]; exact .refl _) ⟨by omega, hrl0, by rw [hre0, hz, prg_zero]⟩ ?_
  rintro i rs U ⟨hi, hrl, hre⟩
  by_cases hlt : i < ra.length
  · have hral := hg.row hlt
    refine WC.seq fun K hK => ?_
    refine WC.region rfl ?_
    refine wG rfl rfl (g_lt rfl (.mk rfl rfl) (.mk rfl rfl) (decide_eq_true (by omega))) ?_
    refine WL.nil ?_
    (refine hK _ _ ?_; clear hK)
    refine WC.seq fun K hK => ?_
    refine WC.cond_true (.mk rfl rfl) ?_
    refine WC.skip ?_
    (refine hK _ _ ?_; clear hK)
    refine WC.seq fun K hK => ?_
    refine WC.block ?_
    refine WC.seq fun K hK => ?_
    refine WC.region rfl ?_
    refine wG rfl rfl (g_move rfl (.mk (v := .int _ _) rfl rfl)) ?_
    refine wG rfl rfl (g_indexAddr (sz := 1) rfl (.mk rfl rfl) (.mk rfl rfl) rfl rfl rfl (by omega) (fun _ _ => sl_some hs (by omega))) ?_
    refine wG rfl rfl (g_load rfl (.mk rfl rfl) rfl (rd_sl hs (get1 (by omega)))) ?_
    refine wG rfl rfl (g_assign rfl (.mk (v := .int _ _) rfl rfl)) ?_
    refine wG rfl rfl (g_assign rfl (.mk (v := .slice _ _ _) rfl rfl)) ?_
    refine WL.nil ?_
    (refine hK _ _ ?_; clear hK)
    refine WC.seq fun K hK => ?_
    refine WC.region rfl ?_
    refine wG rfl rfl (g_move rfl (.mk (v := .slice _ _ _) rfl rfl)) ?_
    refine wG rfl rfl (g_len rfl (.mk rfl rfl) rfl) ?_
    refine wG rfl rfl (g_move rfl (.mk (v := .int _ _) rfl rfl)) ?_
    refine WL.nil ?_
    (refine hK _ _ ?_; clear hK)
    refine WC.block ?_
    refine WC.loopI2 (73786958702652163584) (fun (k : Nat) (rs : List Row) => [(44, iv k)]) (fun k rs => [vec Ao r0.length co 111 1 (rs.map Row.v), rowsA rs]) (fun k rs => k ≤ rb.length ∧ rs.length = ra.length ∧ els rs = prg ra.length F z (mrow (els ra) (els rb) (nth rb 0).l.length i k) i) (fun k _ => rb.length - k) 0 rs ⟨rfl, trivial⟩ (.refl _) ⟨by omega, hrl, by rw [hre, mrow_zero, hz]⟩ ?_
    rintro k rs U ⟨hk, hrl, hre⟩
    by_cases hlt2 : k < rb.length
    · have hrbl := hgb.row hlt2
      have hri : (nth rs i).l = mrow (els ra) (els rb) (nth rb 0).l.length i k := by rw [els_row hre (by omega), prg_at hlt]
      have hrll : (nth rs i).l.length = (nth rb 0).l.length := by rw [hri, mrow_len]
      have hgf : gfused (nth rs i).l (nth rb k).l (nth (nth ra i).l k) = mrow (els ra) (els rb) (nth rb 0).l.length i (k + 1) := by
        rw [hri, el_row hlt, ← els_at hlt2]; exact mrow_step (by rw [els_at hlt2]; exact hrbl)
      have hgl : (gfused (nth rs i).l (nth rb k).l (nth (nth ra i).l k)).length = (nth rs i).l.length := gfused_length _ _ _ (by omega)
      refine WC.seq fun K hK => ?_
      refine WC.region rfl ?_
      refine wG rfl rfl (g_lt rfl (.mk rfl rfl) (.mk rfl rfl) (decide_eq_true (by omega))) ?_
      refine WL.nil ?_
      (refine hK _ _ ?_; clear hK)
      refine WC.seq fun K hK => ?_
      refine WC.cond_true (.mk rfl rfl) ?_
      refine WC.skip ?_
      (refine hK _ _ ?_; clear hK)
      refine WC.seq fun K hK => ?_
      refine WC.block ?_
      refine WC.seq fun K hK => ?_
      refine WC.region rfl ?_
      refine wG rfl rfl (g_move rfl (.mk (v := .int _ _) rfl rfl)) ?_
      refine wG rfl rfl (g_indexAddr (sz := 1) rfl (.mk rfl rfl) (.mk rfl rfl) rfl rfl rfl (by omega) (fun _ _ => sl_some (ha.row (by omega)) (by omega))) ?_
      refine wG rfl rfl (g_load rfl (.mk rfl rfl) rfl (rd_sl (ha.row (by omega)) (get1 (by omega)))) ?_
      refine wG rfl rfl (g_assign rfl (.mk (v := .int _ _) rfl rfl)) ?_
      refine wG rfl rfl (g_assign rfl (.mk (v := .int _ _) rfl rfl)) ?_
      refine WL.nil ?_
      (refine hK _ _ ?_; clear hK)
      refine WC.split 0 rfl (by kernel_rfl) (by decide +kernel) ?_
      refine WQ.nil ?_
      refine WY.take 0 rfl (by decide +kernel) (by decide +kernel) (by decide +kernel) rfl rfl (g_move rfl (.mk (v := .slice _ _ _) rfl rfl)) ?_
      refine WY.take 1 rfl (by decide +kernel) (by decide +kernel) (by decide +kernel) rfl rfl (g_move rfl (.mk (v := .int _ _) rfl rfl)) ?_
      refine WY.take 2 rfl (by decide +kernel) (by decide +kernel) (by decide +kernel) rfl rfl (g_move rfl (.mk (v := .slice _ _ _) rfl rfl)) ?_
      refine WY.take 3 rfl (by decide +kernel) (by decide +kernel) (by decide +kernel) rfl rfl (g_move rfl (.mk (v := .int _ _) rfl rfl)) ?_
      refine WY.take 6 rfl (by decide +kernel) (by decide +kernel) (by decide +kernel) rfl rfl (g_move rfl (.mk (v := .slice _ _ _) rfl rfl)) ?_
      refine WY.take 7 rfl (by decide +kernel) (by decide +kernel) (by decide +kernel) rfl rfl (g_move rfl (.mk (v := .int _ _) rfl rfl)) ?_
      refine WY.take 8 rfl (by decide +kernel) (by decide +kernel) (by decide +kernel) rfl rfl (g_indexAddr (sz := 1) rfl (.mk rfl rfl) (.mk rfl rfl) rfl rfl rfl (by omega) (fun _ _ => sl_some hs2 (by omega))) ?_
      refine WY.take 10 rfl (by decide +kernel) (by decide +kernel) (by decide +kernel) rfl rfl (g_move rfl (.mk (v := .int _ _) rfl rfl)) ?_
      refine WY.two 4 9 (by decide +kernel) rfl rfl rfl rfl ?_ ?_
      refine WL1.give rfl (g_indexAddr (sz := 1) rfl (.mk rfl rfl) (.mk rfl rfl) rfl rfl rfl (by omega) (fun w hw => vec_some hw (.head _) (by omega))) ?_
      refine WL.nil ?_
      refine WY.two 5 9 (by decide +kernel) rfl rfl rfl rfl ?_ ?_
      refine WL1.give rfl (g_load rfl (.mk rfl rfl) rfl (rd_vec (.head _) (get1 (by omega)))) ?_
      refine WL.nil ?_
      refine WY.one 9 (by decide +kernel) rfl rfl ?_
      refine WL1.give rfl (g_load rfl (.mk rfl rfl) rfl (rd_sl hs2 (get1 (by omega)))) ?_
      refine WL.nil ?_
      refine WY.one 11 (by decide +kernel) rfl rfl ?_
      (refine WL1.callN rfl rfl rfl (.cons (.mk (v := .slice _ _ _) rfl rfl) (.cons (.mk (v := .slice _ _ _) rfl rfl) (.cons (.mk (v := .int _ _) rfl rfl) .nil))) (fun w hw => fused_n _ _ (nth rs i).l (nth rb k).l (nth (nth ra i).l k) w (Sl.of_rowA hw (by repeat (first | exact .head _ | apply List.Mem.tail)) (by omega)) ((hb.row hlt2).below hw.1) (by omega) (by omega)) ?_; rintro _ _ ⟨Af, cf, rfl, rfl⟩)
      refine WL.nil ?_
      refine WY.take 12 rfl (by decide +kernel) (by decide +kernel) (by decide +kernel) rfl rfl (g_move rfl (.mk (v := .tuple _) rfl rfl)) ?_
      refine WY.take 13 rfl (by decide +kernel) (by decide +kernel) (by decide +kernel) rfl rfl (g_extract rfl (.mk rfl rfl) rfl) ?_
      refine WY.take 14 rfl (by decide +kernel) (by decide +kernel) (by decide +kernel) rfl rfl (g_extract rfl (.mk rfl rfl) rfl) ?_
      refine WY.one 15 (by decide +kernel) rfl rfl ?_
      refine WL1.give rfl (g_indexAddr (sz := 1) rfl (.mk rfl rfl) (.mk rfl rfl) rfl rfl rfl (by omega) (fun w hw => vec_some hw (.tail _ (.head _)) (by omega))) ?_
      refine WL.nil ?_
      refine WY.one 16 (by decide +kernel) rfl rfl ?_
      refine WL1.storeV1 rfl rfl (.mk rfl rfl) (.mk rfl rfl) rfl rfl (by first | omega | (simp; done) | (simp; omega)) (.tail (.head)) ?_
      refine WL.nil ?_
      refine WY.done (by decide +kernel) ?_
      (refine hK _ _ ?_; clear hK)
      refine WC.region rfl ?_
      refine wG rfl rfl (g_add rfl (.mk rfl rfl) (.mk rfl rfl) (IntWalk.i64_in _ (by omega))) ?_
      refine wG rfl rfl (g_move rfl (.mk (v := .int _ _) rfl rfl)) ?_
      refine WL.nil ?_
      rotate_left
      refine WL1.give rfl (g_load rfl (.mk rfl rfl) rfl (rd_sl hs2 (get1 (by omega)))) ?_
      refine WL.nil ?_
      refine WY.one 5 (by decide +kernel) rfl rfl ?_
      refine WL1.give rfl (g_load rfl (.mk rfl rfl) rfl (rd_vec (.head _) (get1 (by omega)))) ?_
      refine WL.nil ?_
      refine WY.one 11 (by decide +kernel) rfl rfl ?_
      (refine WL1.callN rfl rfl rfl (.cons (.mk (v := .slice _ _ _) rfl rfl) (.cons (.mk (v := .slice _ _ _) rfl rfl) (.cons (.mk (v := .int _ _) rfl rfl) .nil))) (fun w hw => fused_n _ _ (nth rs i).l (nth rb k).l (nth (nth ra i).l k) w (Sl.of_rowA hw (by repeat (first | exact .head _ | apply List.Mem.tail)) (by omega)) ((hb.row hlt2).below hw.1) (by omega) (by omega)) ?_; rintro _ _ ⟨Af, cf, rfl, rfl⟩)
      refine WL.nil ?_
      refine WY.take 12 rfl (by decide +kernel) (by decide +kernel) (by decide +kernel) rfl rfl (g_move rfl (.mk (v := .tuple _) rfl rfl)) ?_
      refine WY.take 13 rfl (by decide +kernel) (by decide +kernel) (by decide +kernel) rfl rfl (g_extract rfl (.mk rfl rfl) rfl) ?_
      refine WY.take 14 rfl (by decide +kernel) (by decide +kernel) (by decide +kernel) rfl rfl (g_extract rfl (.mk rfl rfl) rfl) ?_
      refine WY.one 15 (by decide +kernel) rfl rfl ?_
      refine WL1.give rfl (g_indexAddr (sz := 1) rfl (.mk rfl rfl) (.mk rfl rfl) rfl rfl rfl (by omega) (fun w hw => vec_some hw (.tail _ (.head _)) (by omega))) ?_
      refine WL.nil ?_
      refine WY.one 16 (by decide +kernel) rfl rfl ?_
      refine WL1.storeV1 rfl rfl (.mk rfl rfl) (.mk rfl rfl) rfl rfl (by first | omega | (simp; done) | (simp; omega)) (.tail (.head)) ?_
      refine WL.nil ?_
      refine WY.done (by decide +kernel) ?_
      (refine hK _ _ ?_; clear hK)
      refine WC.region rfl ?_
      refine wG rfl rfl (g_add rfl (.mk rfl rfl) (.mk rfl rfl) (IntWalk.i64_in _ (by omega))) ?_
      refine wG rfl rfl (g_move rfl (.mk (v := .int _ _) rfl rfl)) ?_
      refine WL.nil ?_
      rotate_left
      refine WL1.give rfl (g_load rfl (.mk rfl rfl) rfl (rd_sl hs2 (get1 (by omega)))) ?_
      refine WL.nil ?_
      refine WY.one 4 (by decide +kernel) rfl rfl ?_
      refine WL1.give rfl (g_indexAddr (sz := 1) rfl (.mk rfl rfl) (.mk rfl rfl) rfl rfl rfl (by omega) (fun w hw => vec_some hw (.head _) (by omega))) ?_
      refine WL.nil ?_
      refine WY.one 5 (by decide +kernel) rfl rfl ?_
      refine WL1.give rfl (g_load rfl (.mk rfl rfl) rfl (rd_vec (.head _) (get1 (by omega)))) ?_
      refine WL.nil ?_
      refine WY.one 11 (by decide +kernel) rfl rfl ?_
      (refine WL1.callN rfl rfl rfl (.cons (.mk (v := .slice _ _ _) rfl rfl) (.cons (.mk (v := .slice _ _ _) rfl rfl) (.cons (.mk (v := .int _ _) rfl rfl) .nil))) (fun w hw => fused_n _ _ (nth rs i).l (nth rb k).l (nth (nth ra i).l k) w (Sl.of_rowA hw (by repeat (first | exact .head _ | apply List.Mem.tail)) (by omega)) ((hb.row hlt2).below hw.1) (by omega) (by omega)) ?_; rintro _ _ ⟨Af, cf, rfl, rfl⟩)
      refine WL.nil ?_
      refine WY.take 12 rfl (by decide +kernel) (by decide +kernel) (by decide +kernel) rfl rfl (g_move rfl (.mk (v := .tuple _) rfl rfl)) ?_
      refine WY.take 13 rfl (by decide +kernel) (by decide +kernel) (by decide +kernel) rfl rfl (g_extract rfl (.mk rfl rfl) rfl) ?_
      refine WY.take 14 rfl (by decide +kernel) (by decide +kernel) (by decide +kernel) rfl rfl (g_extract rfl (.mk rfl rfl) rfl) ?_
      refine WY.one 15 (by decide +kernel) rfl rfl ?_
      refine WL1.give rfl (g_indexAddr (sz := 1) rfl (.mk rfl rfl) (.mk rfl rfl) rfl rfl rfl (by omega) (fun w hw => vec_some hw (.tail _ (.head _)) (by omega))) ?_
      refine WL.nil ?_
      refine WY.one 16 (by decide +kernel) rfl rfl ?_
      refine WL1.storeV1 rfl rfl (.mk rfl rfl) (.mk rfl rfl) rfl rfl (by first | omega | (simp; done) | (simp; omega)) (.tail (.head)) ?_
      refine WL.nil ?_
      refine WY.done (by decide +kernel) ?_
      (refine hK _ _ ?_; clear hK)
      refine WC.region rfl ?_
      refine wG rfl rfl (g_add rfl (.mk rfl rfl) (.mk rfl rfl) (IntWalk.i64_in _ (by omega))) ?_
      refine wG rfl rfl (g_move rfl (.mk (v := .int _ _) rfl rfl)) ?_
      refine WL.nil ?_
      rotate_left
      all_goals
        refine ⟨k + 1, rs.set i ⟨Af, cf, gfused (nth rs i).l (nth rb k).l (nth (nth ra i).l k)⟩, (by repeat (first | with_reducible exact Out.refl _ _ | refine Out.set rfl ?_ | refine Out.put rfl ?_ | refine Out.sets rfl ?_ | refine Out.hav rfl ?_ | exact Out.refl _ _)), ⟨rfl, trivial⟩, ?_, ⟨by omega, by rw [List.length_set, hrl], by rw [els_set, hre, prg_set hlt, hgf]⟩, by omega⟩
        rw [rowsv_set, Nat.mul_one, v_of hgl, own_of hgl]
        exact Imp.put2 (by repeat (first | exact .head | apply Take.tail)) (by repeat (first | exact .head | apply Swap.tail)) (by omega)
    · obtain rfl : k = rb.length := by omega
      refine WC.seq fun K hK => ?_
      refine WC.region rfl ?_
      refine wG rfl rfl (g_lt rfl (.mk rfl rfl) (.mk rfl rfl) (decide_eq_false (by omega))) ?_
      refine WL.nil ?_
      (refine hK _ _ ?_; clear hK)
      refine WC.seq fun K hK => ?_
      refine WC.cond_false (.mk rfl rfl) ?_
      refine WC.exit ?_
      (clear hK; refine hK _ _ ?_; clear hK)
      refine WC.region rfl ?_
      refine wG rfl rfl (g_add rfl (.mk rfl rfl) (.mk rfl rfl) (IntWalk.i64_in _ (by omega))) ?_
      refine wG rfl rfl (g_move rfl (.mk (v := .int _ _) rfl rfl)) ?_
      refine WL.nil ?_
      exact ⟨i + 1, rs, (by repeat (first | with_reducible exact Out.refl _ _ | refine Out.set rfl ?_ | refine Out.put rfl ?_ | refine Out.sets rfl ?_ | refine Out.hav rfl ?_ | exact Out.refl _ _)), ⟨rfl, trivial⟩, .refl _, ⟨by omega, hrl, by rw [hre, ← prg_next, hF]⟩, by omega⟩
  · obtain rfl : i = ra.length := by omega
    refine WC.seq fun K hK => ?_
    refine WC.region rfl ?_
    refine wG rfl rfl (g_lt rfl (.mk rfl rfl) (.mk rfl rfl) (decide_eq_false (by omega))) ?_
    refine WL.nil ?_
    (refine hK _ _ ?_; clear hK)
    refine WC.seq fun K hK => ?_
    refine WC.cond_false (.mk rfl rfl) ?_
    refine WC.exit ?_
    (clear hK; refine hK _ _ ?_; clear hK)
    refine WC.seq fun K hK => ?_
    refine WC.region rfl ?_
    refine wG rfl rfl (g_move rfl (.mk (v := .slice _ _ _) rfl rfl)) ?_
    refine wG rfl rfl (g_assign rfl (.mk (v := .slice _ _ _) rfl rfl)) ?_
    refine wG rfl rfl (g_assign rfl (.mk (v := .int _ _) rfl rfl)) ?_
    refine WL.nil ?_
    (refine hK _ _ ?_; clear hK)
    refine WC.ret ?_
    exact fun w' hw' => ⟨_, _, rfl, hw', Ao, co, rs, by show Value.tuple #[.slice Ao r0.length co, iv 0] = _; rw [hrl, hrl0], by rw [matM, hrl, hrl0], by rw [hre, prg_all, hF, mulM, els_len, els_len, els_at (by omega)], hrl⟩
def trM (m : List (List G)) : List (List G) := (List.range (nth m 0).length).map fun k => (List.range m.length).map fun i => el m i k
def trP (m : List (List G)) (n r i k : Nat) : List (List G) := (List.range n).map fun q => (List.range r).map fun p => if p < i ∨ (p = i ∧ q < k) then el m p q else 0
end Go.Proofs.Ytnkbnponpknokaa
namespace Go.Proofs.Ytnkbnponpknokaa
set_option maxRecDepth 20000
def fnd (p : Nat → Bool) : Nat → Option Nat
  | 0 => none
  | n + 1 => match fnd p n with
    | some j => some j
    | none => if p n then some n else none
theorem fnd_none {p : Nat → Bool} : ∀ {n : Nat}, fnd p n = none → ∀ i, i < n → p i = false
  | 0, _, i, hi => absurd hi (by omega)
  | n + 1, h, i, hi => by
    unfold fnd at h
    cases hf : fnd p n with
    | some j => rw [hf] at h; cases h
    | none =>
      rw [hf] at h
      by_cases hp : p n = true
      · simp [hp] at h
      · by_cases e : i = n
        · rw [e]; simpa using hp
        · exact fnd_none hf i (by omega)
theorem fnd_some {p : Nat → Bool} : ∀ {n j : Nat}, fnd p n = some j → j < n ∧ p j = true ∧ ∀ i, i < j → p i = false
  | 0, _, h => by cases h
  | n + 1, j, h => by
    unfold fnd at h
    cases hf : fnd p n with
    | some k =>
      rw [hf] at h
      simp only [Option.some.injEq] at h
      subst h
      obtain ⟨h1, h2, h3⟩ := fnd_some hf
      exact ⟨by omega, h2, h3⟩
    | none =>
      rw [hf] at h
      by_cases hp : p n = true
      · simp only [hp, if_true, Option.some.injEq] at h
        subst h
        exact ⟨by omega, hp, fnd_none hf⟩
      · simp [hp] at h
theorem fnd_eq {p : Nat → Bool} {n j : Nat} (hj : j < n) (hp : p j = true) (h : ∀ i, i < j → p i = false) : fnd p n = some j := by
  cases hf : fnd p n with
  | none => rw [fnd_none hf j hj] at hp; cases hp
  | some k =>
    obtain ⟨h1, h2, h3⟩ := fnd_some hf
    rcases Nat.lt_trichotomy j k with h4 | h4 | h4
    · rw [h3 j h4] at hp; cases hp
    · rw [h4]
    · rw [h k h4] at h2; cases h2
theorem fnd_all {p : Nat → Bool} {n : Nat} (h : ∀ i, i < n → p i = false) : fnd p n = none := by
  cases hf : fnd p n with
  | none => rfl
  | some k =>
    obtain ⟨h1, h2, _⟩ := fnd_some hf
    rw [h k h1] at h2; cases h2
def fz : Option Nat → Int
  | some k => k
  | none => -1
def nz (x : G) : Bool := decide (x ≠ 0)
theorem nz_t {x : G} : nz x = true ↔ x ≠ 0 := by unfold nz; simp
theorem nz_f {x : G} : nz x = false ↔ x = 0 := by unfold nz; simp
def pvt (a : List (List G)) (n c : Nat) : Option Nat := fnd (fun k => nz (el a (c + k) c)) (n - c)
def swp (a : List (List G)) (c q : Nat) : List (List G) := (a.set c (nth a q)).set q (nth a c)
def nrm (a : List (List G)) (w c : Nat) : List (List G) := a.set c (gfused (zrow w) (nth a c) (ginv (el a c c)))
def elm (a : List (List G)) (n c i : Nat) : List (List G) := (List.range n).map fun q => if q < i ∧ q ≠ c then gfused (nth a q) (nth a c) (el a q c) else nth a q
def stp (a : List (List G)) (n c q : Nat) : List (List G) := elm (nrm (swp a c (c + q)) (2 * n) c) n c n
def gjr (n : Nat) : Nat → List (List G) → Option (List (List G))
  | 0, a => some a
  | k + 1, a => match pvt a n (n - (k + 1)) with
    | none => none
    | some q => gjr n k (stp a n (n - (k + 1)) q)
def aug (m : List (List G)) (n : Nat) : List (List G) := (List.range n).map fun i => nth m i ++ (List.range n).map fun j => dlt i j
def invM (m : List (List G)) : Option (List (List G)) := (gjr m.length m.length (aug m m.length)).map fun a => a.map (List.drop m.length)
def Shp (a : List (List G)) (n w : Nat) : Prop := a.length = n ∧ ∀ i, i < n → (nth a i).length = w
section
variable {a : List (List G)} {n w c q i : Nat}
theorem swp_len : (swp a c q).length = a.length := by simp [swp]
theorem swp_row (hc : c < a.length) (hq : q < a.length) (i : Nat) : nth (swp a c q) i = if i = q then nth a c else if i = c then nth a q else nth a i := by
  unfold swp
  rw [nth_put (by simpa using hq), nth_put hc]
theorem swp_shp (h : Shp a n w) (hc : c < n) (hq : q < n) : Shp (swp a c q) n w := by
  refine ⟨by rw [swp_len, h.1], fun i hi => ?_⟩
  rw [swp_row (by rw [h.1]; exact hc) (by rw [h.1]; exact hq)]
  split
  · exact h.2 c hc
  · split
    · exact h.2 q hq
    · exact h.2 i hi
theorem nrm_row (h : Shp a n w) (hc : c < n) (i : Nat) : nth (nrm a w c) i = if i = c then gfused (zrow w) (nth a c) (ginv (el a c c)) else nth a i := by
  unfold nrm
  rw [nth_put (by rw [h.1]; exact hc)]
theorem nrm_shp (h : Shp a n w) (hc : c < n) : Shp (nrm a w c) n w := by
  refine ⟨by unfold nrm; rw [List.length_set, h.1], fun i hi => ?_⟩
  rw [nrm_row h hc]
  split
  · rw [gfused_length _ _ _ (by rw [zrow_len, h.2 c hc]), zrow_len]
  · exact h.2 i hi
theorem elm_len : (elm a n c i).length = n := by simp [elm]
theorem elm_row {q : Nat} (hq : q < n) : nth (elm a n c i) q = if q < i ∧ q ≠ c then gfused (nth a q) (nth a c) (el a q c) else nth a q := nth_range _ hq
theorem elm_shp (h : Shp a n w) (hc : c < n) : Shp (elm a n c i) n w := by
  refine ⟨elm_len, fun q hq => ?_⟩
  rw [elm_row hq]
  split
  · rw [gfused_length _ _ _ (by rw [h.2 q hq, h.2 c hc]), h.2 q hq]
  · exact h.2 q hq
theorem elm_zero (h : a.length = n) : elm a n c 0 = a := list_ext_nth (by rw [elm_len, h]) fun q hq => by
  rw [elm_len] at hq
  rw [elm_row hq, if_neg (by omega)]
theorem elm_skip (h : i = c) : elm a n c i = elm a n c (i + 1) := List.map_congr_left fun q _ => by
  by_cases e : q < i ∧ q ≠ c
  · rw [if_pos e, if_pos (by omega)]
  · rw [if_neg e, if_neg (by omega)]
theorem elm_set (hi : i < n) (hne : i ≠ c) : (elm a n c i).set i (gfused (nth a i) (nth a c) (el a i c)) = elm a n c (i + 1) := list_ext_nth (by rw [List.length_set, elm_len, elm_len]) fun q hq => by
  rw [List.length_set, elm_len] at hq
  rw [nth_put (by rw [elm_len]; exact hi), elm_row hq, elm_row hq]
  by_cases e : q = i
  · subst e; rw [if_pos rfl, if_pos (by omega)]
  · rw [if_neg e]
    by_cases e2 : q < i ∧ q ≠ c
    · rw [if_pos e2, if_pos (by omega)]
    · rw [if_neg e2, if_neg (by omega)]
/-! elements -/
theorem fused_el {d s : List G} {w : Nat} (x : G) (h1 : d.length = w) (h2 : s.length = w) {j : Nat} (hj : j < w) : nth (gfused d s x) j = nth d j + x * nth s j := by rw [gfused_map x h1 h2, nth_range _ hj]
theorem swp_el (h : Shp a n w) (hc : c < n) (hq : q < n) (i j : Nat) : el (swp a c q) i j = if i = q then el a c j else if i = c then el a q j else el a i j := by
  unfold el
  rw [swp_row (by rw [h.1]; exact hc) (by rw [h.1]; exact hq)]
  split
  · rfl
  · split <;> rfl
theorem nrm_el (h : Shp a n w) (hc : c < n) (i : Nat) {j : Nat} (hj : j < w) : el (nrm a w c) i j = if i = c then ginv (el a c c) * el a c j else el a i j := by
  unfold el
  rw [nrm_row h hc]
  split
  · rw [fused_el (w := w) _ (zrow_len _) (h.2 c hc) hj, zrow_nth hj, G.zero_add]; rfl
  · rfl
theorem elm_el (h : Shp a n w) (hc : c < n) {i j : Nat} (hi : i < n) (hj : j < w) : el (elm a n c n) i j = if i = c then el a c j else el a i j + el a i c * el a c j := by
  unfold el
  rw [elm_row hi]
  by_cases e : i = c
  · rw [if_neg (by omega), if_pos e, e]
  · rw [if_pos ⟨hi, e⟩, if_neg e, fused_el (w := w) _ (h.2 i hi) (h.2 c hc) hj]; rfl
end
structure Inv (m a : List (List G)) (n c : Nat) : Prop where
  shp : Shp a n (2 * n)
  fac : ∀ i, i < n → ∀ j, j < n → el a i j = gsum n fun k => el a i (n + k) * el m k j
  ker : ∀ x : Nat → G, (∀ i, i < n → gsum n (fun j => el a i j * x j) = 0) → ∀ i, i < n → gsum n (fun j => el m i j * x j) = 0
  one : ∀ i, i < n → ∀ j, j < c → el a i j = dlt i j
theorem aug_row {m : List (List G)} {n i : Nat} (hi : i < n) : nth (aug m n) i = nth m i ++ (List.range n).map fun j => dlt i j := nth_range _ hi
theorem nth_app {α : Type} [Inhabited α] (a b : List α) (k : Nat) : nth (a ++ b) k = if k < a.length then nth a k else nth b (k - a.length) := by
  unfold nth
  simp only [List.getD_eq_getElem?_getD]
  by_cases h : k < a.length
  · rw [if_pos h, List.getElem?_append_left h]
  · rw [if_neg h, List.getElem?_append_right (by omega)]
theorem aug_inv {m : List (List G)} {n : Nat} (h : Shp m n n) : Inv m (aug m n) n 0 := by
  have e1 : ∀ i, i < n → ∀ j, j < n → el (aug m n) i j = el m i j := fun i hi j hj => by
    unfold el; rw [aug_row hi, nth_app, if_pos (by rw [h.2 i hi]; exact hj)]
  have e2 : ∀ i, i < n → ∀ j, j < n → el (aug m n) i (n + j) = dlt i j := fun i hi j hj => by
    unfold el; rw [aug_row hi, nth_app, if_neg (by rw [h.2 i hi]; omega), h.2 i hi, Nat.add_sub_cancel_left, nth_range _ hj]
  refine ⟨⟨by simp [aug], fun i hi => ?_⟩, fun i hi j hj => ?_, fun x hx i hi => ?_, fun i hi j hj => absurd hj (by omega)⟩
  · rw [aug_row hi, List.length_append, h.2 i hi]; simp; omega
  · rw [e1 i hi j hj]
    have : gsum n (fun k => el (aug m n) i (n + k) * el m k j) = gsum n (fun k => dlt i k * el m k j) := gsum_congr fun k hk => by rw [e2 i hi k hk]
    rw [this, gsum_dlt hi]
  · rw [← hx i hi]; exact gsum_congr fun j hj => by rw [e1 i hi j hj]
theorem swp_inv {m a : List (List G)} {n c q : Nat} (h : Inv m a n c) (hc : c < n) (hq : q < n) (hcq : c ≤ q) : Inv m (swp a c q) n c := by
  have E := fun i j => swp_el h.shp hc hq i j
  refine ⟨swp_shp h.shp hc hq, fun i hi j hj => ?_, fun x hx => h.ker x fun i hi => ?_, fun i hi j hj => ?_⟩
  · rw [E]
    by_cases e : i = q
    · rw [if_pos e, h.fac c hc j hj]; exact gsum_congr fun k _ => by rw [E, if_pos e]
    · by_cases e2 : i = c
      · rw [if_neg e, if_pos e2, h.fac q hq j hj]; exact gsum_congr fun k _ => by rw [E, if_neg e, if_pos e2]
      · rw [if_neg e, if_neg e2, h.fac i hi j hj]; exact gsum_congr fun k _ => by rw [E, if_neg e, if_neg e2]
  · by_cases e2 : i = c
    · have := hx q hq
      rw [e2, ← this]; exact gsum_congr fun k _ => by rw [E, if_pos rfl]
    · by_cases e : i = q
      · have := hx c hc
        rw [e, ← this]
        refine gsum_congr fun k _ => ?_
        rw [E]
        by_cases e3 : c = q
        · rw [if_pos e3, e3]
        · rw [if_neg e3, if_pos rfl]
      · rw [← hx i hi]; exact gsum_congr fun k _ => by rw [E, if_neg e, if_neg e2]
  · rw [E]
    by_cases e : i = q
    · rw [if_pos e, h.one c hc j hj, dlt_ne (by omega), dlt_ne (by omega)]
    · by_cases e2 : i = c
      · rw [if_neg e, if_pos e2, h.one q hq j hj, dlt_ne (by omega), dlt_ne (by omega)]
      · rw [if_neg e, if_neg e2, h.one i hi j hj]
theorem nrm_inv {m a : List (List G)} {n c : Nat} (h : Inv m a n c) (hc : c < n) (hp : el a c c ≠ 0) : Inv m (nrm a (2 * n) c) n c ∧ el (nrm a (2 * n) c) c c = 1 := by
  have E := fun i j (hj : j < 2 * n) => nrm_el h.shp hc i hj
  have hm := mul_ginv hp
  refine ⟨⟨nrm_shp h.shp hc, fun i hi j hj => ?_, fun x hx => h.ker x fun i hi => ?_, fun i hi j hj => ?_⟩, ?_⟩
  · rw [E i j (by omega)]
    by_cases e : i = c
    · rw [if_pos e, h.fac c hc j hj, mul_gsum]; exact gsum_congr fun k hk => by rw [E i (n + k) (by omega), if_pos e, G.mul_assoc]
    · rw [if_neg e, h.fac i hi j hj]; exact gsum_congr fun k hk => by rw [E i (n + k) (by omega), if_neg e]
  · by_cases e : i = c
    · have h1 := hx c hc
      have h2 : gsum n (fun j => el (nrm a (2 * n) c) c j * x j) = ginv (el a c c) * gsum n (fun j => el a c j * x j) := by
        rw [mul_gsum]; exact gsum_congr fun k hk => by rw [E c k (by omega), if_pos rfl, G.mul_assoc]
      rw [h2] at h1
      rcases mul_eq_zero_iff.1 h1 with h3 | h3
      · exact absurd h3 (ginv_ne hp)
      · rw [e]; exact h3
    · rw [← hx i hi]; exact gsum_congr fun k hk => by rw [E i k (by omega), if_neg e]
  · rw [E i j (by omega)]
    by_cases e : i = c
    · rw [if_pos e, h.one c hc j hj, dlt_ne (by omega), G.mul_zero, dlt_ne (by omega)]
    · rw [if_neg e, h.one i hi j hj]
  · rw [E c c (by omega), if_pos rfl, G.mul_comm]; exact hm
theorem elm_inv {m a : List (List G)} {n c : Nat} (h : Inv m a n c) (hc : c < n) (hp : el a c c = 1) : Inv m (elm a n c n) n (c + 1) := by
  have E := fun i j (hi : i < n) (hj : j < 2 * n) => elm_el h.shp hc hi hj
  refine ⟨elm_shp h.shp hc, fun i hi j hj => ?_, fun x hx => h.ker x fun i hi => ?_, fun i hi j hj => ?_⟩
  · rw [E i j hi (by omega)]
    by_cases e : i = c
    · rw [if_pos e, h.fac c hc j hj]; exact gsum_congr fun k hk => by rw [E i (n + k) hi (by omega), if_pos e]
    · rw [if_neg e, h.fac i hi j hj, h.fac c hc j hj, mul_gsum, ← gsum_add]; exact gsum_congr fun k hk => by rw [E i (n + k) hi (by omega), if_neg e, G.add_mul, G.mul_assoc]
  · have h1 : gsum n (fun j => el a c j * x j) = 0 := by
      rw [← hx c hc]; exact gsum_congr fun k hk => by rw [E c k hc (by omega), if_pos rfl]
    by_cases e : i = c
    · rw [e]; exact h1
    · have h2 := hx i hi
      have h3 : gsum n (fun j => el (elm a n c n) i j * x j) = gsum n (fun j => el a i j * x j) + el a i c * gsum n (fun j => el a c j * x j) := by
        rw [mul_gsum, ← gsum_add]; exact gsum_congr fun k hk => by rw [E i k hi (by omega), if_neg e, G.add_mul, G.mul_assoc]
      rw [h3, h1, G.mul_zero, G.add_zero] at h2
      exact h2
  · rw [E i j hi (by omega)]
    by_cases ej : j = c
    · subst ej
      by_cases e : i = j
      · rw [if_pos e, hp, e, dlt_self]
      · rw [if_neg e, hp, G.mul_one, G.add_self, dlt_ne e]
    · have hj' : j < c := by omega
      by_cases e : i = c
      · rw [if_pos e, h.one c hc j hj', e]
      · rw [if_neg e, h.one c hc j hj', dlt_ne (by omega), G.mul_zero, G.add_zero, h.one i hi j hj']
theorem stp_inv {m a : List (List G)} {n c q : Nat} (h : Inv m a n c) (hc : c < n) (hq : pvt a n c = some q) : c + q < n ∧ Inv m (stp a n c q) n (c + 1) := by
  obtain ⟨h1, h2, _⟩ := fnd_some hq
  have hlt : c + q < n := by omega
  refine ⟨hlt, ?_⟩
  have hs := swp_inv h hc hlt (by omega)
  have hp : el (swp a c (c + q)) c c ≠ 0 := by
    rw [swp_el h.shp hc hlt]
    have h3 := nz_t.1 h2
    by_cases e : c = c + q
    · rw [if_pos e]; rw [← e] at h3; exact h3
    · rw [if_neg e, if_pos rfl]; exact h3
  obtain ⟨hn, hn1⟩ := nrm_inv hs hc hp
  exact elm_inv hn hc hn1
theorem pvt_none {m a : List (List G)} {n c : Nat} (h : Inv m a n c) (hc : c < n) (hq : pvt a n c = none) : ∃ x : Nat → G, (∃ k, k < n ∧ x k ≠ 0) ∧ ∀ i, i < n → gsum n (fun j => el m i j * x j) = 0 := by
  have h0 : ∀ i, i < n → c ≤ i → el a i c = 0 := fun i hi hci => by
    have := fnd_none hq (i - c) (by omega)
    rw [show c + (i - c) = i from by omega] at this
    exact nz_f.1 this
  refine ⟨fun k => if k = c then 1 else if k < c then el a k c else 0, ⟨c, hc, by show (if c = c then (1 : G) else _) ≠ 0; rw [if_pos rfl]; exact one_ne_zero⟩, h.ker _ fun i hi => ?_⟩
  rw [gsum_take hc]
  show el a i c * (if c = c then 1 else _) + _ = 0
  rw [if_pos rfl, G.mul_one]
  by_cases hic : i < c
  · rw [gsum_one hi (a := i), if_neg (by omega)]
    · show el a i c + el a i i * (if i = c then 1 else if i < c then el a i c else 0) = 0
      rw [if_neg (by omega), if_pos hic, h.one i hi i hic, dlt_self, G.one_mul, G.add_self]
    · intro k hk hki
      by_cases e : k = c
      · rw [if_pos e]
      · rw [if_neg e]
        show el a i k * (if k = c then 1 else if k < c then el a k c else 0) = 0
        rw [if_neg e]
        by_cases e2 : k < c
        · rw [if_pos e2, h.one i hi k e2, dlt_ne (fun h => hki h.symm), G.zero_mul]
        · rw [if_neg e2, G.mul_zero]
  · rw [h0 i hi (by omega), G.zero_add]
    refine gsum_zero fun k hk => ?_
    by_cases e : k = c
    · rw [if_pos e]
    · rw [if_neg e]
      show el a i k * (if k = c then 1 else if k < c then el a k c else 0) = 0
      rw [if_neg e]
      by_cases e2 : k < c
      · rw [if_pos e2, h.one i hi k e2, dlt_ne (by omega), G.zero_mul]
      · rw [if_neg e2, G.mul_zero]
theorem gjr_some {m : List (List G)} {n : Nat} : ∀ {k : Nat} {a b : List (List G)}, k ≤ n → Inv m a n (n - k) → gjr n k a = some b → Inv m b n n
  | 0, a, b, _, h, e => by
    simp only [gjr, Option.some.injEq] at e
    subst e; exact h
  | k + 1, a, b, hk, h, e => by
    simp only [gjr] at e
    cases hp : pvt a n (n - (k + 1)) with
    | none => rw [hp] at e; cases e
    | some q =>
      rw [hp] at e
      have := (stp_inv h (by omega) hp).2
      rw [show n - (k + 1) + 1 = n - k from by omega] at this
      exact gjr_some (by omega) this e
theorem gjr_none {m : List (List G)} {n : Nat} : ∀ {k : Nat} {a : List (List G)}, k ≤ n → Inv m a n (n - k) → gjr n k a = none → ∃ x : Nat → G, (∃ k, k < n ∧ x k ≠ 0) ∧ ∀ i, i < n → gsum n (fun j => el m i j * x j) = 0
  | 0, a, _, _, e => by cases e
  | k + 1, a, hk, h, e => by
    simp only [gjr] at e
    cases hp : pvt a n (n - (k + 1)) with
    | none => exact pvt_none h (by omega) hp
    | some q =>
      rw [hp] at e
      have := (stp_inv h (by omega) hp).2
      rw [show n - (k + 1) + 1 = n - k from by omega] at this
      exact gjr_none (by omega) this e
theorem drop_nth {l : List G} {n k : Nat} : nth (l.drop n) k = nth l (n + k) := by unfold nth; simp [List.getD_eq_getElem?_getD, List.getElem?_drop]
theorem drops_el {a : List (List G)} {n : Nat} {i : Nat} (hi : i < a.length) (j : Nat) : el (a.map (List.drop n)) i j = el a i (n + j) := by
  unfold el; rw [nth_map _ hi, drop_nth]
theorem invM_some {m v : List (List G)} {n : Nat} (h : Shp m n n) (e : invM m = some v) : Shp v n n ∧ (∀ i, i < n → ∀ j, j < n → gsum n (fun k => el v i k * el m k j) = dlt i j) ∧ (∀ i, i < n → ∀ j, j < n → gsum n (fun k => el m i k * el v k j) = dlt i j) := by
  unfold invM at e
  rw [h.1] at e
  cases hg : gjr n n (aug m n) with
  | none => rw [hg] at e; cases e
  | some a =>
    rw [hg] at e
    simp only [Option.map_some, Option.some.injEq] at e
    have hi := gjr_some (Nat.le_refl n) (by rw [Nat.sub_self]; exact aug_inv h) hg
    have hs : Shp v n n := by
      subst e
      refine ⟨by rw [List.length_map, hi.shp.1], fun i hin => ?_⟩
      rw [nth_map _ (by rw [hi.shp.1]; exact hin), List.length_drop, hi.shp.2 i hin]; omega
    have hl : ∀ i, i < n → ∀ j, j < n → gsum n (fun k => el v i k * el m k j) = dlt i j := fun i hin j hj => by
      rw [← hi.one i hin j hj, hi.fac i hin j hj]
      subst e
      exact gsum_congr fun k _ => by rw [drops_el (by rw [hi.shp.1]; exact hin)]
    exact ⟨hs, hl, inv_two hl⟩
theorem invM_none {m : List (List G)} {n : Nat} (h : Shp m n n) (e : invM m = none) : ∃ x : Nat → G, (∃ k, k < n ∧ x k ≠ 0) ∧ ∀ i, i < n → gsum n (fun j => el m i j * x j) = 0 := by
  unfold invM at e
  rw [h.1] at e
  cases hg : gjr n n (aug m n) with
  | some a => rw [hg] at e; cases e
  | none => exact gjr_none (Nat.le_refl n) (by rw [Nat.sub_self]; exact aug_inv h) hg
end Go.Proofs.Ytnkbnponpknokaa
namespace Go.Proofs.Ytnkbnponpknokaa
set_option maxRecDepth 20000
open Go.RowKit
def errDivide : Int := 3
theorem G.beq_zero {a : G} (h : a ≠ 0) : ((a.val : Int) == 0) = false := by
  have : a.val ≠ 0 := fun e => h (G.eq_of e)
  rw [beq_eq_false_iff_ne]; omega
set_option maxHeartbeats 400000 in
theorem inv_any (a : G) (h : a ≠ 0) (w : World) :
    Calls Try.prog 103 #[bv a] w fun e w' => e = .returned (.tuple #[bv (ginv a), iv 0]) ∧ w = w' := by
  have hb := G.beq_zero h
  go_enter Try.func103, Try.ntmps103
  go_wp2_with (go_at_call 83; refine (power_any _ _ (by omega) (by omega) _).mono ?_; rintro e w' ⟨rfl, rfl⟩)
  go_ret2
  exact ⟨rfl, rfl⟩
end Go.Proofs.Ytnkbnponpknokaa
