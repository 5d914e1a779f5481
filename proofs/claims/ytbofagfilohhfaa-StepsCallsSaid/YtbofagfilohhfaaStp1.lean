/- The scheduler of steps in memory; the walks of index, Delete, Remove. No condition. -/
import Derived.Test.YtbofagfilohhfaaEng17
import Derived.Test.YtbofagfilohhfaaProg
namespace Go.Proofs.Ytbofagfilohhfaa
set_option maxRecDepth 20000
open Go.RowKit
attribute [local irreducible] Calls
abbrev iv (x : Int) : Value := .int .i64 x
abbrev bp (b : Nat) : Value := cellPtr (some ⟨b, 0, none⟩) 0
/-- An entry: its block, identifier, weight, credit, its machine's block. -/
structure En where
  p : Nat
  id : Int
  wt : Int
  cr : Int
  j : Nat
instance : Inhabited En := ⟨⟨0, 0, 0, 0, 0⟩⟩
abbrev ET : TypeId := 64
abbrev PT : TypeId := 62
abbrev ST : TypeId := 59
abbrev JT : TypeId := 30
abbrev MT : TypeId := 28
def En.cells (e : En) : List Value := [iv e.id, iv e.wt, iv e.cr, .iface MT (bp e.j)]
abbrev ent (e : En) : Asrt := pt e.p ET e.cells
def ptrs (es : List En) : List Value := es.map fun e => bp e.p
def ents (es : List En) : Asrt := bun (es.map ent)
theorem ptrs_len (es : List En) : (ptrs es).length = es.length := by simp [ptrs]
theorem ptrs_get {es : List En} {k : Nat} (h : k < es.length) : (ptrs es)[k]? = some (bp (nth es k).p) := by
  rw [ptrs, List.getElem?_map, List.getElem?_eq_getElem h, nth_eq h]; rfl
theorem ent_mem {es : List En} {k : Nat} (h : k < es.length) : pt (nth es k).p ET (nth es k).cells ∈ es.map ent := List.mem_map.2 ⟨nth es k, by rw [nth_eq h]; exact List.getElem_mem h, rfl⟩
/-- The place of an identifier; the length if there is none. -/
def idN (es : List En) (x : Int) : Nat := es.findIdx (fun e => e.id == x)
def idI (es : List En) (x : Int) : Int := if idN es x < es.length then (idN es x : Nat) else -1
theorem elP : Elem Try.prog 57 PT (.pointer none) 1 8 := ⟨by kernel_rfl, by kernel_rfl, rfl, by decide⟩
/-- The scheduler: the block with the slice and the last identifier; the slice's array; the entries. -/
abbrev schd (S : Nat) (A : Option Addr) (c : Nat) (last : Int) (es : List En) : List Asrt := [pt S ST [.slice A es.length c, iv last], vec A es.length c PT 1 (ptrs es), ents es]
section
variable {w0 w : World} {L : List Asrt} {S c b : Nat} {A : Option Addr} {last x : Int} {es : List En} {e : En}
set_option maxRecDepth 20000 in
theorem clo_e (hL : ents es ∈ L) (hw : H w0 L w) (k : Nat) (hk : k < es.length) (hc : w.cell? ⟨b, 0, none⟩ = some (iv x)) :
    Calls Try.prog 29 #[bp (nth es k).p, bp b] w fun e w' => e = .returned (.bool ((nth es k).id == x)) ∧ Below w.heap.size w w' := by
  have hm := ent_mem hk
  have hr : w.cell? ⟨(nth es k).p, 0, none⟩ = some (iv (nth es k).id) := by
    have h1 : Sep 0 w (es.map ent) := (hw.2.in_ _ hL).1
    exact cell_of_block (sep_mem h1 hm) 
  refine calls_wc (args := [bp (nth es k).p, bp b]) [3] ([]) Try.func29 rfl Try.ntmps29 rfl rfl rfl rfl (H.refl w) ?_
  (refine WC.seq ?_; intro K hK)
  refine WC.region rfl ?_
  refine WL.want rfl (WL1.give rfl (g_assign rfl (.mk (v := .bool _) rfl rfl)) ?_)
  refine WL.nil ?_
  (refine hK _ _ ?_; clear hK)
  (refine WC.seq ?_; intro K hK)
  refine WC.quiet rfl (by kernel_rfl) (by decide +kernel) ?_
  refine WQ.want rfl (WQ1.give rfl (g_move rfl (.mk (v := cellPtr _ _) rfl rfl)) ?_)
  refine WQ.want rfl (WQ1.give rfl (g_nilCheck rfl (.mk rfl rfl) (fun _ _ => rfl)) ?_)
  refine WQ.want rfl (WQ1.give rfl (g_fieldAddr (off := 0) rfl (.mk rfl rfl) rfl (fun _ _ => rfl)) ?_)
  refine WQ.want rfl (WQ1.give rfl (g_load rfl (.mk rfl rfl) rfl (rd_wb hr)) ?_)
  refine WQ.want rfl (WQ1.give rfl (g_load rfl (.mk rfl rfl) rfl (rd_wb hc)) ?_)
  refine WQ.want rfl (WQ1.give rfl (g_eq rfl (.mk rfl rfl) (.mk rfl rfl) rfl) ?_)
  refine WQ.want rfl (WQ1.give rfl (g_assign rfl (.mk (v := .bool _) rfl rfl)) ?_)
  refine WQ.nil ?_
  (refine hK _ _ ?_; clear hK)
  refine WC.ret ?_
  exact fun w' hw' => ⟨rfl, hw'.1⟩
theorem idN_at {k : Nat} (hk : k < es.length) (hb : ∀ i, i < k → (nth es i).id ≠ x) (hx : (nth es k).id = x) : idN es x = k := by
  unfold idN
  rw [List.findIdx_eq hk]
  rw [nth_eq hk] at hx
  refine ⟨by simp [hx], fun j hj => ?_⟩
  have := hb j hj
  rw [nth_eq (by omega)] at this
  simp [this]
theorem idN_none (hb : ∀ i, i < es.length → (nth es i).id ≠ x) : idN es x = es.length := by
  unfold idN
  rw [List.findIdx_eq_length]
  intro e he
  obtain ⟨i, hi, rfl⟩ := List.getElem_of_mem he
  have := hb i hi
  rw [nth_eq hi] at this
  simp [this]
set_option maxRecDepth 20000 in
theorem indexf_e (hA : vec A es.length c PT 1 (ptrs es) ∈ L) (hL : ents es ∈ L) (hm : es.length ≤ 64) (hw : H w0 L w) (hc : w.cell? ⟨b, 0, none⟩ = some (iv x)) :
    Calls Try.prog 28 #[.slice A es.length c, .func (.func 29) #[] [bp b].toArray] w fun e w' => e = .returned (iv (idI es x)) ∧ Below w.heap.size w w' := by
  have hsl : Sl w 1 (.slice A es.length c) es.length (ptrs es) := Sl.of_vec hw hA
  refine calls_wc (args := [.slice A es.length c, .func (.func 29) #[] [bp b].toArray]) [4] ([]) Try.func28 rfl Try.ntmps28 rfl rfl rfl rfl (H.refl w) ?_
  (refine WC.seq ?_; intro K hK)
  refine WC.region rfl ?_
  refine WL.want rfl (WL1.give rfl (g_assign rfl (.mk (v := .int _ _) rfl rfl)) ?_)
  refine WL.nil ?_
  (refine hK _ _ ?_; clear hK)
  (refine WC.seq ?_; intro K hK)
  (refine WC.seq ?_; intro K hK)
  refine WC.region rfl ?_
  refine WL.want rfl (WL1.give rfl (g_move rfl (.mk (v := .slice _ _ _) rfl rfl)) ?_)
  refine WL.want rfl (WL1.give rfl (g_len rfl (.mk rfl rfl) rfl) ?_)
  refine WL.want rfl (WL1.give rfl (g_move rfl (.mk (v := .int _ _) rfl rfl)) ?_)
  refine WL.nil ?_
  (refine hK _ _ ?_; clear hK)
  refine WC.block ?_
  refine WC.loop (524080) (fun k : Nat => [(8, iv k)]) (fun _ => []) (fun k => k ≤ es.length ∧ ∀ i, i < k → (nth es i).id ≠ x) (fun k => es.length - k) 0 ⟨rfl, trivial⟩ (.refl _) ⟨by omega, fun i hi => absurd hi (by omega)⟩ ?_
  rintro k U ⟨hk, hb⟩
  by_cases hlt : k < es.length
  · by_cases he : (nth es k).id = x
    · have HC : ∀ w', H w [] w' → Calls Try.prog 29 ([bp (nth es k).p] ++ [bp b]).toArray w' fun e w'' => e = .returned (.bool true) ∧ Below w'.heap.size w' w'' := fun w' hw' => by
        have := clo_e hL (hw.below hw'.1) k hlt (kept_cell hw'.1 hc)
        rwa [he, beq_self_eq_true] at this
      (refine WC.seq ?_; intro K hK)
      refine WC.region rfl ?_
      refine WL.want rfl (WL1.give rfl (g_lt rfl (.mk rfl rfl) (.mk rfl rfl) (decide_eq_true (by omega))) ?_)
      refine WL.nil ?_
      (refine hK _ _ ?_; clear hK)
      (refine WC.seq ?_; intro K hK)
      refine WC.cond_true (.mk rfl rfl) ?_
      refine WC.skip ?_
      (refine hK _ _ ?_; clear hK)
      (refine WC.seq ?_; intro K hK)
      refine WC.block ?_
      (refine WC.seq ?_; intro K hK)
      refine WC.region rfl ?_
      refine WL.want rfl (WL1.give rfl (g_move rfl (.mk (v := .int _ _) rfl rfl)) ?_)
      refine WL.want rfl (WL1.give rfl (g_assign rfl (.mk (v := .int _ _) rfl rfl)) ?_)
      refine WL.nil ?_
      (refine hK _ _ ?_; clear hK)
      (refine WC.seq ?_; intro K hK)
      refine WC.region rfl ?_
      refine WL.want rfl (WL1.give rfl (g_move rfl (.mk (v := .func _ _ _) rfl rfl)) ?_)
      refine WL.want rfl (WL1.give rfl (g_move rfl (.mk (v := .slice _ _ _) rfl rfl)) ?_)
      refine WL.want rfl (WL1.give rfl (g_move rfl (.mk (v := .int _ _) rfl rfl)) ?_)
      refine WL.want rfl (WL1.give rfl (g_indexAddr (sz := 1) rfl (.mk rfl rfl) (.mk rfl rfl) rfl rfl rfl (by omega) (fun _ _ => sl_some hsl (by omega))) ?_)
      refine WL.want rfl (WL1.give rfl (g_load rfl (.mk rfl rfl) rfl (rd_sl hsl (get1 (by omega)))) ?_)
      refine WL.want rfl (WL1.callVP rfl rfl (.mk rfl rfl) (by first | assumption | rfl) (.cons (.mk (v := cellPtr _ _) rfl rfl) .nil) (fun w hw => HC w hw) ?_)
      refine WL.nil ?_
      (refine hK _ _ ?_; clear hK)
      refine WC.cond_true (.mk rfl rfl) ?_
      (refine WC.seq ?_; intro K hK)
      refine WC.region rfl ?_
      refine WL.want rfl (WL1.give rfl (g_move rfl (.mk (v := .int _ _) rfl rfl)) ?_)
      refine WL.want rfl (WL1.give rfl (g_assign rfl (.mk (v := .int _ _) rfl rfl)) ?_)
      refine WL.nil ?_
      (refine hK _ _ ?_; clear hK)
      refine WC.ret ?_
      rw [idI, idN_at hlt hb he, if_pos hlt]
      exact fun w' hw' => ⟨rfl, hw'.1⟩
    · have HC : ∀ w', H w [] w' → Calls Try.prog 29 ([bp (nth es k).p] ++ [bp b]).toArray w' fun e w'' => e = .returned (.bool false) ∧ Below w'.heap.size w' w'' := fun w' hw' => by
        have := clo_e hL (hw.below hw'.1) k hlt (kept_cell hw'.1 hc)
        rwa [beq_false_of_ne he] at this
      (refine WC.seq ?_; intro K hK)
      refine WC.region rfl ?_
      refine WL.want rfl (WL1.give rfl (g_lt rfl (.mk rfl rfl) (.mk rfl rfl) (decide_eq_true (by omega))) ?_)
      refine WL.nil ?_
      (refine hK _ _ ?_; clear hK)
      (refine WC.seq ?_; intro K hK)
      refine WC.cond_true (.mk rfl rfl) ?_
      refine WC.skip ?_
      (refine hK _ _ ?_; clear hK)
      (refine WC.seq ?_; intro K hK)
      refine WC.block ?_
      (refine WC.seq ?_; intro K hK)
      refine WC.region rfl ?_
      refine WL.want rfl (WL1.give rfl (g_move rfl (.mk (v := .int _ _) rfl rfl)) ?_)
      refine WL.want rfl (WL1.give rfl (g_assign rfl (.mk (v := .int _ _) rfl rfl)) ?_)
      refine WL.nil ?_
      (refine hK _ _ ?_; clear hK)
      (refine WC.seq ?_; intro K hK)
      refine WC.region rfl ?_
      refine WL.want rfl (WL1.give rfl (g_move rfl (.mk (v := .func _ _ _) rfl rfl)) ?_)
      refine WL.want rfl (WL1.give rfl (g_move rfl (.mk (v := .slice _ _ _) rfl rfl)) ?_)
      refine WL.want rfl (WL1.give rfl (g_move rfl (.mk (v := .int _ _) rfl rfl)) ?_)
      refine WL.want rfl (WL1.give rfl (g_indexAddr (sz := 1) rfl (.mk rfl rfl) (.mk rfl rfl) rfl rfl rfl (by omega) (fun _ _ => sl_some hsl (by omega))) ?_)
      refine WL.want rfl (WL1.give rfl (g_load rfl (.mk rfl rfl) rfl (rd_sl hsl (get1 (by omega)))) ?_)
      refine WL.want rfl (WL1.callVP rfl rfl (.mk rfl rfl) (by first | assumption | rfl) (.cons (.mk (v := cellPtr _ _) rfl rfl) .nil) (fun w hw => HC w hw) ?_)
      refine WL.nil ?_
      (refine hK _ _ ?_; clear hK)
      refine WC.cond_false (.mk rfl rfl) ?_
      refine WC.skip ?_
      (refine hK _ _ ?_; clear hK)
      refine WC.region rfl ?_
      refine WL.want rfl (WL1.give rfl (g_add rfl (.mk rfl rfl) (.mk rfl rfl) (IntWalk.i64_in _ (by omega))) ?_)
      refine WL.want rfl (WL1.give rfl (g_move rfl (.mk (v := .int _ _) rfl rfl)) ?_)
      refine WL.nil ?_
      refine ⟨k + 1, (by repeat (first | with_reducible exact Out.refl _ _ | refine Out.set rfl ?_ | refine Out.put rfl ?_ | refine Out.sets rfl ?_ | refine Out.hav rfl ?_ | exact Out.refl _ _)), ⟨rfl, trivial⟩, .refl _, ⟨by omega, fun i hi => ?_⟩, by omega⟩
      rcases Nat.lt_or_ge i k with h | h
      · exact hb i h
      · obtain rfl : i = k := by omega
        exact he
  · (refine WC.seq ?_; intro K hK)
    refine WC.region rfl ?_
    refine WL.want rfl (WL1.give rfl (g_lt rfl (.mk rfl rfl) (.mk rfl rfl) (decide_eq_false (by omega))) ?_)
    refine WL.nil ?_
    (refine hK _ _ ?_; clear hK)
    (refine WC.seq ?_; intro K hK)
    refine WC.cond_false (.mk rfl rfl) ?_
    refine WC.exit ?_
    (clear hK; refine hK _ _ ?_; clear hK)
    (refine WC.seq ?_; intro K hK)
    refine WC.region rfl ?_
    refine WL.want rfl (WL1.give rfl (g_assign rfl (.mk (v := .int _ _) rfl rfl)) ?_)
    refine WL.nil ?_
    (refine hK _ _ ?_; clear hK)
    refine WC.ret ?_
    rw [idI, idN_none (fun i hi => hb i (by omega)), if_neg (by omega)]
    exact fun w' hw' => ⟨rfl, hw'.1⟩
theorem IMem : ents es ∈ schd S A c last es ++ L := by simp
set_option maxRecDepth 20000 in
theorem index_e (hm : es.length ≤ 64) (hw : H w0 (schd S A c last es ++ L) w) :
    Calls Try.prog 22 #[bp S, iv x] w fun e w' => e = .returned (iv (idI es x)) ∧ Below w.heap.size w w' := by
  have hS0 : w.cell? ⟨S, 0, none⟩ = some (.slice A es.length c) := cell_pt hw (.head _) rfl
  have hw0 := hw
  refine calls_wc (args := [bp S, iv x]) [4] ([]) Try.func22 rfl Try.ntmps22 rfl rfl rfl rfl (H.refl w) ?_
  (refine WC.seq ?_; intro K hK)
  refine WC.region rfl ?_
  refine WL.want rfl (WL1.box rfl rfl (.mk (v := .int _ _) rfl rfl) rfl (fun b3 => ?_))
  refine WL.want rfl (WL1.give rfl (g_assign rfl (.mk (v := .int _ _) rfl rfl)) ?_)
  refine WL.nil ?_
  (refine hK _ _ ?_; clear hK)
  (refine WC.seq ?_; intro K hK)
  refine WC.region rfl ?_
  refine WL.want rfl (WL1.give rfl (g_move rfl (.mk (v := cellPtr _ _) rfl rfl)) ?_)
  refine WL.want rfl (WL1.give rfl (g_nilCheck rfl (.mk rfl rfl) (fun _ _ => rfl)) ?_)
  refine WL.want rfl (WL1.give rfl (g_fieldAddr (off := 0) rfl (.mk rfl rfl) rfl (fun _ _ => rfl)) ?_)
  refine WL.want rfl (WL1.give rfl (g_load rfl (.mk rfl rfl) rfl (rd_wb hS0)) ?_)
  refine WL.want rfl (WL1.give rfl (g_makeFunc rfl (.cons (.mk (v := cellPtr _ _) rfl rfl) .nil)) ?_)
  refine WL.want rfl (WL1.callP rfl rfl rfl (.cons (.mk (v := .slice _ _ _) rfl rfl) (.cons (.mk (v := .func _ _ _) rfl rfl) .nil)) (fun w hw => indexf_e (L := pt b3 3 [iv x] :: (schd S A c last es ++ L)) (w0 := w0) (.tail _ (.tail _ (.head _))) (.tail _ (.tail _ (.tail _ (.head _)))) hm (hw0.join hw) (cell_pt hw (.head _) rfl)) ?_)
  refine WL.want rfl (WL1.give rfl (g_assign rfl (.mk (v := .int _ _) rfl rfl)) ?_)
  refine WL.nil ?_
  (refine hK _ _ ?_; clear hK)
  refine WC.ret ?_
  exact fun w' hw' => ⟨rfl, hw'.1⟩
end
end Go.Proofs.Ytbofagfilohhfaa
