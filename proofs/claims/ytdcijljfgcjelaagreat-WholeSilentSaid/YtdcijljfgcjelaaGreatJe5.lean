/- Texts joined: Open2, OpenF, OpenG, Top9, Sil2, Eng16, Grp1, Grp2, Grp3, Grp4, Grp5, Grp6. The parts say what each of them proves. No condition. -/
import Derived.Test.YtdcijljfgcjelaaGreatJe4
import Derived.Maps.Own
import Derived.Maps.OwnSet
import Derived.Maps.Range
import Derived.Carry
namespace Go.Proofs.YtdcijljfgcjelaaGreat
set_option maxRecDepth 20000
open Go.RowKit Go.WideShapes Go.ChangeShapes Go.ChangeAt
section
variable {H : Type} {enc : TypeId × Value → H} {W : World}
end
end Go.Proofs.YtdcijljfgcjelaaGreat
namespace Go.Proofs.YtdcijljfgcjelaaGreat
set_option maxRecDepth 20000
open Go.RowKit Go.WideShapes Go.ChangeShapes Go.ChangeAt
def fltFs (P : Program) (g : TypeId → Option (List (Option IntKind))) : Nat → List Field → Option (List (Option IntKind))
  | _, [] => some []
  | off, f :: fs => if f.offset = off then (g f.type).bind fun l => if P.cellsOf f.type = l.length then (fltFs P g (off + l.length) fs).map fun r => l ++ r else none else none
def fltT (P : Program) : Nat → TypeId → Option (List (Option IntKind))
  | 0, _ => none
  | n + 1, t => match P.underlying t with
    | some (.int k) => some [some k]
    | some .bool => some [none]
    | some (.array m e) => (fltT P n e).bind fun l => if P.cellsOf e = l.length ∧ P.cellsOf t = m * l.length then some (List.replicate m l).flatten else none
    | some (.struct fs) => (fltFs P (fltT P n) 0 fs.toList).bind fun l => if P.cellsOf t = l.length then some l else none
    | _ => none
inductive Lf : List (Option IntKind) → List Value → Prop
  | nil : Lf [] []
  | int {k : IntKind} {z : Int} {ks : List (Option IntKind)} {cs : List Value} : (Lit.int k z).wf = true → Lf ks cs → Lf (some k :: ks) (.int k z :: cs)
  | bool {b : Bool} {ks : List (Option IntKind)} {cs : List Value} : Lf ks cs → Lf (none :: ks) (.bool b :: cs)
theorem Lf.app {ks ls : List (Option IntKind)} {cs ds : List Value} (h : Lf ks cs) (h2 : Lf ls ds) : Lf (ks ++ ls) (cs ++ ds) := by
  induction h with
  | nil => exact h2
  | int hw _ ih => exact .int hw ih
  | bool _ ih => exact .bool ih
section
variable {H : Type} {enc : TypeId × Value → H} {P : Program} {w : World} {base : Nat} {spare : Nat → Bool} {held : Bool}
theorem flat_items {e : TypeId} {l : List (Option IntKind)} {m : Nat} : ∀ {cs : List Value} {q : Nat}, cs.length = q + m * l.length → (∀ i, i < m → Lf l ((cs.drop (q + i * l.length)).take l.length)) → Lf (List.replicate m l).flatten (cs.drop q) := by
  induction m with
  | zero => intro cs q hl _; rw [List.drop_of_length_le (by omega)]; exact .nil
  | succ m ih =>
    intro cs q hl h
    rw [List.replicate_succ, List.flatten_cons]
    have h0 := h 0 (by omega)
    rw [Nat.zero_mul, Nat.add_zero] at h0
    have h1 := ih (cs := cs) (q := q + l.length) (by rw [hl, Nat.succ_mul]; omega) (fun i hi => by have := h (i + 1) (by omega); rwa [Nat.succ_mul, show q + (i * l.length + l.length) = q + l.length + i * l.length from by omega] at this)
    have := h0.app h1
    rwa [← List.drop_drop, List.take_append_drop] at this
theorem flat_fields {g : TypeId → Option (List (Option IntKind))} : ∀ {fs : List Field} {off : Nat} {ks : List (Option IntKind)} {cs : List Value}, fltFs P g off fs = some ks → cs.length = off + ks.length →
    (∀ f ∈ fs, ∀ l, g f.type = some l → P.cellsOf f.type = l.length → Lf l ((cs.drop f.offset).take (P.cellsOf f.type))) → Lf ks (cs.drop off)
  | [], off, ks, cs, h, hl, _ => by
    simp only [fltFs, Option.some.injEq] at h
    subst h
    rw [List.drop_of_length_le (by simpa using Nat.le_of_eq hl)]; exact .nil
  | f :: fs, off, ks, cs, h, hl, hf => by
    simp only [fltFs] at h
    by_cases ho : f.offset = off
    · rw [if_pos ho] at h
      cases hg : g f.type with
      | none => rw [hg] at h; cases h
      | some l =>
        rw [hg, Option.bind_some] at h
        by_cases hc : P.cellsOf f.type = l.length
        · rw [if_pos hc] at h
          cases hr : fltFs P g (off + l.length) fs with
          | none => rw [hr] at h; cases h
          | some r =>
            rw [hr] at h
            simp only [Option.map_some, Option.some.injEq] at h
            subst h
            have h0 := hf f (by simp) l hg hc
            have h1 := flat_fields hr (cs := cs) (by rw [hl, List.length_append]; omega) (fun f' hf' => hf f' (by simp [hf']))
            rw [hc, ho] at h0
            have := h0.app h1
            rwa [← List.drop_drop, List.take_append_drop] at this
        · rw [if_neg hc] at h; cases h
    · rw [if_neg ho] at h; cases h
theorem flat_trod : ∀ {n : Nat} {t : TypeId} {ks : List (Option IntKind)} {fuel : Nat} {cs : List Value} {x : DataW H × List MemPlace}, fltT P n t = some ks → DataW.trod enc P w base spare held fuel t cs = some x → Lf ks cs
  | 0, _, _, _, _, _, h, _ => by cases h
  | n + 1, t, ks, fuel, cs, x, h, hx => by
    simp only [fltT] at h
    split at h
    · rename_i k hu
      obtain ⟨z, e1, _, e3⟩ := DataW.trod_int hu hx
      simp only [Option.some.injEq] at h
      subst h; subst e1
      exact .int e3 .nil
    · rename_i hu
      obtain ⟨z, e1, _⟩ := DataW.trod_bool hu hx
      simp only [Option.some.injEq] at h
      subst h; subst e1
      exact .bool .nil
    · rename_i m e hu
      cases hg : fltT P n e with
      | none => rw [hg] at h; cases h
      | some l =>
        rw [hg, Option.bind_some] at h
        by_cases hc : P.cellsOf e = l.length ∧ P.cellsOf t = m * l.length
        · rw [if_pos hc] at h
          simp only [Option.some.injEq] at h
          subst h
          obtain ⟨xs, q, _, _, hl, hxl, hi⟩ := DataW.trod_array hu hx
          have := flat_items (cs := cs) (q := 0) (l := l) (m := m) (by rw [hl, hc.2, Nat.zero_add]) (fun i hil => by
            have h1 := hi i hil
            rw [List.getElem?_eq_getElem (by omega), hc.1] at h1
            rw [Nat.zero_add]
            exact flat_trod hg h1) (e := e)
          simpa using this
        · rw [if_neg hc] at h; cases h
    · rename_i fs hu
      cases hg : fltFs P (fltT P n) 0 fs.toList with
      | none => rw [hg] at h; cases h
      | some l =>
        rw [hg, Option.bind_some] at h
        by_cases hc : P.cellsOf t = l.length
        · rw [if_pos hc] at h
          simp only [Option.some.injEq] at h
          subst h
          obtain ⟨xs, q, _, _, hl, hxl, hi⟩ := DataW.trod_struct hu hx
          have := flat_fields (cs := cs) hg (by rw [hl, hc, Nat.zero_add]) (fun f hf l' hl' hc' => by
            obtain ⟨i, hil, hfi⟩ := List.getElem_of_mem hf
            have hsz : i < fs.size := by simpa using hil
            have h1 := hi i f (by rw [Array.getElem?_eq_getElem hsz]; simpa using hfi)
            rw [List.getElem?_eq_getElem (by omega)] at h1
            exact flat_trod hl' h1)
          simpa using this
        · rw [if_neg hc] at h; cases h
    · cases h
end
def aggB (P : Program) (t : TypeId) : Bool := match P.underlying t with | some (.struct _) => true | some (.array _ _) => true | _ => false
section
variable {H : Type} {enc : TypeId × Value → H} {W : World}
theorem open_sl_flat {b0 sz : Nat} {t e : TypeId} {ks : List (Option IntKind)} {v : Value} {d : DataW H} {p : List MemPlace} (ht : Tryz.prog.underlying t = some (.slice e)) (hC : Tryz.prog.cellsOf e = sz) (hsz : 0 < sz) (hk : fltT Tryz.prog 8 e = some ks) (hv : Value.okWide Tryz.prog W .any b0 t v) (h : DataW.Trod enc Tryz.prog W 0 (fun _ => true) true t v d p) :
    ∃ css : List (List Value), Sl W sz v css.length css.flatten ∧ ∀ c ∈ css, Lf ks c := by
  obtain ⟨css, _, hs, hr⟩ := open_sl_gen ht hC hsz hv h
  exact ⟨css, hs, fun c hc => by obtain ⟨f, x, hx⟩ := hr c hc; exact flat_trod hk hx⟩
theorem each_flat {α : Type} {enc' : α → List Value} {ks : List (Option IntKind)} {ok : α → Prop} (h : ∀ c, Lf ks c → ∃ a, c = enc' a ∧ ok a) : ∀ {css : List (List Value)}, (∀ c ∈ css, Lf ks c) → ∃ l : List α, css = l.map enc' ∧ css.flatten = l.flatMap enc' ∧ ∀ a ∈ l, ok a
  | [], _ => ⟨[], rfl, rfl, by simp⟩
  | c :: css, hc => by
    obtain ⟨a, rfl, ha⟩ := h c (hc c (by simp))
    obtain ⟨l, rfl, e, hl⟩ := each_flat h (fun c h => hc c (by simp [h])) (css := css)
    refine ⟨a :: l, rfl, by rw [List.flatten_cons, e]; rfl, fun b hb => ?_⟩
    rcases List.mem_cons.1 hb with rfl | hb
    · exact ha
    · exact hl b hb
end
end Go.Proofs.YtdcijljfgcjelaaGreat
namespace Go.Proofs.YtdcijljfgcjelaaGreat
set_option maxRecDepth 20000
open Go.RowKit Go.WideShapes Go.ChangeShapes Go.ChangeAt
theorem own : ownKnob Tryz.prog.godebug = none := by kernel_rfl
theorem laidOut : laidOutB Tryz.prog = true := by kernel_rfl
abbrev blkK : List (Option IntKind) := List.replicate 8 (some .u8)
theorem bv_of {n : Int} (h : (Lit.int .u8 n).wf = true) : ∃ g : G, Value.int .u8 n = bv g := by
  have hb := bounds_u8 h
  exact ⟨⟨n.toNat, by omega⟩, by show _ = Value.int .u8 ((n.toNat : Nat) : Int); rw [Int.toNat_of_nonneg hb.1]⟩
theorem Lf.gs : ∀ {m : Nat} {cs : List Value}, Lf (List.replicate m (some .u8)) cs → ∃ l : List G, l.length = m ∧ cs = bvs l
  | 0, _, .nil => ⟨[], rfl, rfl⟩
  | m + 1, _, .int hw h => by
    obtain ⟨g, hg⟩ := bv_of hw
    obtain ⟨l, h1, rfl⟩ := Lf.gs h
    exact ⟨g :: l, by simp [h1], by rw [hg]; rfl⟩
theorem Lf.blk {cs : List Value} (h : Lf blkK cs) : ∃ b : Blk, cs = b.cells := by
  obtain ⟨l, h1, rfl⟩ := h.gs
  exact ⟨⟨l, h1⟩, rfl⟩
theorem Lf.iv {ks : List (Option IntKind)} {cs : List Value} (h : Lf (some .i64 :: ks) cs) : ∃ z ds, cs = Go.Proofs.YtdcijljfgcjelaaGreat.iv z :: ds ∧ -9223372036854775808 ≤ z ∧ z ≤ 9223372036854775807 ∧ Lf ks ds := by
  cases h with
  | int hw h => exact ⟨_, _, rfl, (bounds_i64 hw).1, (bounds_i64 hw).2, h⟩
section
variable {H : Type} {enc : TypeId × Value → H} {W : World}
theorem open_blks {b0 : Nat} {v : Value} {d : DataW H} {p : List MemPlace} (hv : Value.okWide Tryz.prog W .any b0 22 v) (h : DataW.Trod enc Tryz.prog W 0 (fun _ => true) true 22 v d p) :
    ∃ l : List Blk, Sl W 8 v l.length (kvs l) := by
  obtain ⟨css, hs, hc⟩ := open_sl_flat (sz := 8) (ks := blkK) Tryz.underlying22 (by kernel_rfl) (by omega) (by kernel_rfl) hv h
  obtain ⟨l, rfl, e, _⟩ := each_flat (ok := fun _ : Blk => True) (fun c hc => by obtain ⟨b, e⟩ := hc.blk; exact ⟨b, e, trivial⟩) hc
  rw [e, List.length_map] at hs
  exact ⟨l, hs⟩
end
end Go.Proofs.YtdcijljfgcjelaaGreat
namespace Go.Proofs.YtdcijljfgcjelaaGreat
set_option maxRecDepth 20000
open Go.RowKit Go.WideShapes Go.ChangeShapes Go.ChangeAt
attribute [local irreducible] Calls
section
variable {H : Type} {enc : TypeId × Value → H} {W : World}
theorem open_u16 {b0 : Nat} {v : Value} {d : DataW H} {p : List MemPlace} (hv : Value.okWide Tryz.prog W .any b0 23 v) (h : DataW.Trod enc Tryz.prog W 0 (fun _ => true) true 23 v d p) : ∃ n : Nat, v = .int .u16 n ∧ n < 65536 := by
  obtain ⟨n, rfl, _, _, hw⟩ := open_int Tryz.underlying23 hv h
  have hb := bounds_u16 hw
  exact ⟨n.toNat, by rw [Int.toNat_of_nonneg hb.1], by omega⟩
end
set_option maxHeartbeats 1000000 in
theorem sameb_t {v1 v2 : Value} {a b : List Blk} {n m : Nat} {w : World} (h1 : Sl w 8 v1 n (kvs a)) (h2 : Sl w 8 v2 m (kvs b)) (hn : a.length = n) (hm : b.length = m) (he : a = b) : Calls Tryz.prog 14 #[v1, v2] w fun e w' => e = .returned (.bool true) ∧ Below w.heap.size w w' := by
  subst hn; subst hm; subst he
  obtain ⟨A, c, rfl, hc, hm, hs⟩ := h1.open_
  obtain ⟨A2, c2, rfl, hc2, hm2, hs2⟩ := h2.open_
  unfold maxLen at hm
  refine calls_wc (args := [.slice A a.length c, .slice A2 a.length c2]) [4] [] Tryz.func14 rfl Tryz.ntmps14 rfl rfl rfl rfl (H.refl _) ?_
  refine WC.seq fun K hK => ?_
  refine WC.region rfl ?_
  refine wAB rfl rfl rfl rfl rfl ?_
  refine WL.nil (hK _ _ ?_); clear hK
  refine WC.seq fun K hK => ?_
  refine WC.seq fun K hK => ?_
  refine WC.region rfl ?_
  refine wMS rfl rfl rfl rfl rfl ?_
  refine wG rfl rfl (g_len rfl (.mk rfl rfl) rfl) ?_
  refine wMS rfl rfl rfl rfl rfl ?_
  refine wG rfl rfl (g_len rfl (.mk rfl rfl) rfl) ?_
  refine wG rfl rfl (g_ne rfl (.mk rfl rfl) (.mk rfl rfl) (decide_eq_false (by omega))) ?_
  refine WL.nil (hK _ _ ?_); clear hK
  refine WC.cond_false (.mk rfl rfl) ?_
  refine WC.skip ?_
  (refine hK _ _ ?_; clear hK)
  refine WC.seq fun K hK => ?_
  refine WC.seq fun K hK => ?_
  refine WC.region rfl ?_
  refine wAI rfl rfl rfl rfl rfl ?_
  refine WL.nil (hK _ _ ?_); clear hK
  refine WC.block ?_
  refine WC.loopF (fun k : Nat => [(5, iv k), (0, .slice A a.length c), (1, .slice A2 a.length c2)]) (fun _ => []) (fun k => k ≤ a.length) (fun k => a.length - k) 0 (by repeat (first | exact trivial | refine ⟨rfl, ?_⟩)) (Imp.nil _) (by omega) ?_
  intro k U hk
  by_cases hlt : k < a.length
  · have g1 : ∀ t u, (nth a k).cells[t]? = some u → (kvs a)[k * 8 + t]? = some u := fun t u h => flat_row blk8 (by omega) t u h
    have E := blk_eq (a := nth a k) rfl
    refine WC.seq fun K hK => ?_
    refine WC.seq fun K hK => ?_
    refine WC.region rfl ?_
    refine wMI rfl rfl rfl rfl rfl ?_
    refine wMS rfl rfl rfl rfl rfl ?_
    refine wG rfl rfl (g_len rfl (.mk rfl rfl) rfl) ?_
    refine wG rfl rfl (g_lt rfl (.mk rfl rfl) (.mk rfl rfl) (decide_eq_true (by omega))) ?_
    refine WL.nil (hK _ _ ?_); clear hK
    refine WC.cond_true (.mk rfl rfl) ?_
    refine WC.skip ?_
    (refine hK _ _ ?_; clear hK)
    refine WC.seq fun K hK => ?_
    refine WC.block ?_
    refine WC.seq fun K hK => ?_
    refine WC.quiet rfl (by kernel_rfl) (by decide +kernel) ?_
    refine WQ.want rfl (WQ1.give rfl (g_move rfl (.mk (v := .slice _ _ _) rfl rfl)) ?_)
    refine WQ.want rfl (WQ1.give rfl (g_move rfl (.mk (v := .int _ _) rfl rfl)) ?_)
    refine WQ.want rfl (WQ1.give rfl (g_indexAddr (sz := 8) rfl (.mk rfl rfl) (.mk rfl rfl) rfl rfl rfl (by omega) (fun _ _ => sl_some hs (by omega))) ?_)
    refine WQ.want rfl (WQ1.give rfl (g_loadA rfl (.mk rfl rfl) rfl (sz8 _) (rdr_sl hs (by omega) g1)) ?_)
    refine WQ.want rfl (WQ1.give rfl (g_move rfl (.mk (v := .slice _ _ _) rfl rfl)) ?_)
    refine WQ.want rfl (WQ1.give rfl (g_move rfl (.mk (v := .int _ _) rfl rfl)) ?_)
    refine WQ.want rfl (WQ1.give rfl (g_indexAddr (sz := 8) rfl (.mk rfl rfl) (.mk rfl rfl) rfl rfl rfl (by omega) (fun _ _ => sl_some hs2 (by omega))) ?_)
    refine WQ.want rfl (WQ1.give rfl (g_loadA rfl (.mk rfl rfl) rfl (sz8 _) (rdr_sl hs2 (by omega) g1)) ?_)
    refine WQ.want rfl (WQ1.give rfl (g_ane (by kernel_rfl) rfl (.mk rfl rfl) (.mk rfl rfl) E) ?_)
    refine WQ.nil ?_
    (refine hK _ _ ?_; clear hK)
    refine WC.cond_false (.mk rfl rfl) ?_
    refine WC.skip ?_
    (refine hK _ _ ?_; clear hK)
    refine WC.region rfl ?_
    refine wMI rfl rfl rfl rfl rfl ?_
    refine wG rfl rfl (g_add rfl (.mk rfl rfl) (.mk rfl rfl) (IntWalk.i64_in _ (by omega))) ?_
    refine wAI rfl rfl rfl rfl rfl ?_
    refine WL.nil ?_
    exact ⟨k + 1, (by repeat (first | exact trivial | refine ⟨rfl, ?_⟩)), .refl _, by omega, by omega⟩
  · obtain rfl : k = a.length := by omega
    refine WC.seq fun K hK => ?_
    refine WC.seq fun K hK => ?_
    refine WC.region rfl ?_
    refine wMI rfl rfl rfl rfl rfl ?_
    refine wMS rfl rfl rfl rfl rfl ?_
    refine wG rfl rfl (g_len rfl (.mk rfl rfl) rfl) ?_
    refine wG rfl rfl (g_lt rfl (.mk rfl rfl) (.mk rfl rfl) (decide_eq_false (by omega))) ?_
    refine WL.nil (hK _ _ ?_); clear hK
    refine WC.cond_false (.mk rfl rfl) ?_
    refine WC.exit ?_
    (clear hK; refine hK _ _ ?_; clear hK)
    refine WC.seq fun K hK => ?_
    refine WC.region rfl ?_
    refine wAB rfl rfl rfl rfl rfl ?_
    refine WL.nil (hK _ _ ?_); clear hK
    refine WC.ret ?_
    exact fun w' hw' => ⟨rfl, hw'.1⟩
/-! ### The first three marks -/
def bitB (s q : Nat) : Bool := decide (s / 2 ^ q % 2 = 1)
def cnM (s : Nat) : Nat → Nat
  | 0 => 0
  | q + 1 => if bitB s q = true ∧ cnM s q < 3 then cnM s q + 1 else cnM s q
def mkB (s q : Nat) : Bool := decide (bitB s q = true ∧ cnM s q < 3)
def mkP (m s i : Nat) : List Bool := (List.range m).map fun q => decide (q < i) && mkB s q
def mkL (m s : Nat) : List Bool := (List.range m).map (mkB s)
theorem mkP_len (m s i : Nat) : (mkP m s i).length = m := by simp [mkP]
theorem mkP_nth {m s i q : Nat} (h : q < m) : nth (mkP m s i) q = (decide (q < i) && mkB s q) := nth_range _ h
theorem mkL_nth {m s q : Nat} (h : q < m) : nth (mkL m s) q = mkB s q := nth_range _ h
theorem mkP_all (m s : Nat) : mkP m s m = mkL m s := List.map_congr_left fun q hq => by rw [decide_eq_true (List.mem_range.1 hq), Bool.true_and]
theorem mkP_set {m s i : Nat} (h : i < m) (hb : mkB s i = true) : (mkP m s i).set i true = mkP m s (i + 1) :=
  list_ext_nth (by rw [List.length_set, mkP_len, mkP_len]) fun q hq => by
    have hq3 : q < m := by rw [List.length_set, mkP_len] at hq; exact hq
    rw [nth_set_eq (by rw [mkP_len]; exact h), mkP_nth hq3, mkP_nth hq3]
    by_cases e : q = i
    · subst e; rw [if_pos rfl, hb, decide_eq_true (by omega)]; rfl
    · rw [if_neg e]
      by_cases e2 : q < i
      · rw [decide_eq_true e2, decide_eq_true (by omega)]
      · rw [decide_eq_false e2, decide_eq_false (by omega)]
theorem mkP_skip {m s i : Nat} (hb : mkB s i = false) : mkP m s i = mkP m s (i + 1) := List.map_congr_left fun q _ => by
  by_cases e : q = i
  · subst e; rw [hb, Bool.and_false, Bool.and_false]
  · by_cases e2 : q < i
    · rw [decide_eq_true e2, decide_eq_true (by omega)]
    · rw [decide_eq_false e2, decide_eq_false (by omega)]
theorem cnM_le (s : Nat) : ∀ i, cnM s i ≤ 3
  | 0 => by simp [cnM]
  | i + 1 => by
    have := cnM_le s i
    rw [cnM]
    split <;> omega
theorem mkL_cnt {m s : Nat} : ∀ i, i ≤ m → cnt (mkL m s) i = cnM s i
  | 0, _ => rfl
  | i + 1, h => by
    have ih := mkL_cnt (m := m) (s := s) i (by omega)
    have e : cnt (mkL m s) (i + 1) = cnt (mkL m s) i + if nth (mkL m s) i then 1 else 0 := rfl
    rw [e, ih, mkL_nth (by omega), cnM]
    unfold mkB
    by_cases hc : bitB s i = true ∧ cnM s i < 3
    · rw [if_pos hc, decide_eq_true hc]; rfl
    · rw [if_neg hc, decide_eq_false hc]; rfl
theorem made_bo (n : Nat) : (madeCells (Value.bool false).cells (n * 1)).toList = bls (List.replicate n false) := by
  rw [show (Value.bool false).cells = #[.bool false] from rfl, made_one, bls, List.map_replicate]
theorem mkP_zero (m s : Nat) : mkP m s 0 = List.replicate m false := by
  unfold mkP
  rw [show (fun q => decide (q < 0) && mkB s q) = fun _ => false from funext fun q => by simp, List.map_const', List.length_range]
theorem shr_nat (s i : Nat) : Int.fdiv (s : Int) (2 ^ i) = ((s / 2 ^ i : Nat) : Int) := by
  rw [show (2 : Int) ^ i = ((2 ^ i : Nat) : Int) from (Int.natCast_pow 2 i).symm]
  exact (Int.ofNat_fdiv s (2 ^ i)).symm
theorem and_nat (x : Nat) (hx : x < 65536) : (BitVec.ofInt 16 (x : Int) &&& BitVec.ofInt 16 1).toNat = x % 2 := by
  rw [BitVec.toNat_and, BitVec.toNat_ofInt, BitVec.toNat_ofInt, show ((x : Int) % ((2 ^ 16 : Nat) : Int)).toNat = x from by omega, show ((1 : Int) % ((2 ^ 16 : Nat) : Int)).toNat = 1 from by decide, Nat.and_one_is_mod]
set_option maxHeartbeats 1000000 in
theorem tmarks_n (m s : Nat) (w : World) (hm : m ≤ 16) (hs : s < 65536) : Calls Tryz.prog 10 #[iv m, .int .u16 s] w fun e w' => ∃ v M, e = .returned v ∧ H w M w' ∧ ∃ b, v = .slice (some ⟨b, 0, none⟩) m m ∧ M = [vec (some ⟨b, 0, none⟩) m m 4 1 (bls (mkL m s))] := by
  refine calls_wc (args := [iv m, .int .u16 s]) [4] [] Tryz.func10 rfl Tryz.ntmps10 rfl rfl rfl rfl (H.refl _) ?_
  refine WC.seq fun K hK => ?_
  refine WC.region rfl ?_
  refine wAS rfl rfl rfl rfl rfl ?_
  refine WL.nil (hK _ _ ?_); clear hK
  refine WC.seq fun K hK => ?_
  refine WC.region rfl ?_
  refine wMI rfl rfl rfl rfl rfl ?_
  refine WL.want rfl (WL1.make elBo rfl rfl (.mk rfl rfl) (.mk rfl rfl) rfl rfl (by omega) (by unfold maxLen; omega) (fun b9 => ?_))
  refine wAS rfl rfl rfl rfl rfl ?_
  refine WL.nil (hK _ _ ?_); clear hK
  refine WC.seq fun K hK => ?_
  refine WC.region rfl ?_
  refine wAI rfl rfl rfl rfl rfl ?_
  refine WL.nil (hK _ _ ?_); clear hK
  refine WC.seq fun K hK => ?_
  refine WC.seq fun K hK => ?_
  refine WC.region rfl ?_
  refine wMS rfl rfl rfl rfl rfl ?_
  refine wG rfl rfl (g_len rfl (.mk rfl rfl) rfl) ?_
  refine wMI rfl rfl rfl rfl rfl ?_
  refine WL.nil (hK _ _ ?_); clear hK
  refine WC.block ?_
  rw [made_bo, ← mkP_zero m s]
  refine WC.loop (1073737920) (fun i : Nat => [(12, iv i), (6, iv (cnM s i))]) (fun i => [vec (some ⟨b9, 0, none⟩) m m 4 1 (bls (mkP m s i))]) (fun i => i ≤ m) (fun i => m - i) 0 ⟨rfl, rfl, trivial⟩ (.refl _) (by omega) ?_
  intro i U hi
  have hpl := mkP_len m s i
  have hbl := bls_len (mkP m s i)
  by_cases hlt : i < m
  · have hpw : s / 2 ^ i ≤ s := Nat.div_le_self _ _
    have hshr : ((s : Nat) : Int).fdiv (2 ^ (min ((i : Int)).toNat (IntKind.u16).bits)) = ((s / 2 ^ i : Nat) : Int) := by
      rw [show min ((i : Int)).toNat (IntKind.u16).bits = i from by show min ((i : Int)).toNat 16 = i; omega]
      exact shr_nat s i
    have hand : IntKind.u16.wrap (BitVec.ofInt (IntKind.u16).bits ((s / 2 ^ i : Nat) : Int) &&& BitVec.ofInt (IntKind.u16).bits 1).toNat = ((s / 2 ^ i % 2 : Nat) : Int) := by
      show IntKind.u16.wrap ((BitVec.ofInt 16 ((s / 2 ^ i : Nat) : Int) &&& BitVec.ofInt 16 1).toNat : Int) = _
      rw [and_nat _ (by omega)]
      exact IntWalk.u16_in _ (by omega)
    have hmb : mkB s i = decide (bitB s i = true ∧ cnM s i < 3) := rfl
    have hcs : cnM s (i + 1) = if bitB s i = true ∧ cnM s i < 3 then cnM s i + 1 else cnM s i := rfl
    have hc3 := cnM_le s i
    by_cases hb : s / 2 ^ i % 2 = 1
    · have hbb : bitB s i = true := decide_eq_true hb
      by_cases hc : cnM s i < 3
      · rw [if_pos ⟨hbb, hc⟩] at hcs
        rw [decide_eq_true ⟨hbb, hc⟩] at hmb
        generalize s / 2 ^ i = z at *
        refine WC.seq fun K hK => ?_
        refine WC.region rfl ?_
        refine wG rfl rfl (g_lt rfl (.mk rfl rfl) (.mk rfl rfl) (decide_eq_true (by omega))) ?_
        refine WL.nil (hK _ _ ?_); clear hK
        refine WC.seq fun K hK => ?_
        refine WC.cond_true (.mk rfl rfl) ?_
        refine WC.skip ?_
        (refine hK _ _ ?_; clear hK)
        refine WC.seq fun K hK => ?_
        refine WC.block ?_
        refine WC.seq fun K hK => ?_
        refine WC.region rfl ?_
        refine wMI rfl rfl rfl rfl rfl ?_
        refine wAI rfl rfl rfl rfl rfl ?_
        refine WL.nil (hK _ _ ?_); clear hK
        refine WC.seq fun K hK => ?_
        refine WC.region rfl ?_
        refine wMI rfl rfl rfl rfl rfl ?_
        refine wMI rfl rfl rfl rfl rfl ?_
        refine wG rfl rfl (g_shr rfl (.mk rfl rfl) (.mk rfl rfl) (by omega) hshr) ?_
        refine wG rfl rfl (g_and rfl (.mk rfl rfl) (.mk rfl rfl) hand) ?_
        refine wG rfl rfl (g_eq rfl (.mk rfl rfl) (.mk rfl rfl) (decide_eq_true (by omega))) ?_
        refine wMB rfl rfl rfl rfl rfl ?_
        refine WL.wantG rfl rfl rfl rfl (WL1.give rfl (g_move rfl (.mk (v := .int _ _) rfl rfl)) ?_)
        refine WL.wantG rfl rfl rfl rfl (WL1.give rfl (g_lt rfl (.mk rfl rfl) (.mk rfl rfl) (decide_eq_true (by omega))) ?_)
        refine wG rfl rfl (g_pickT rfl (.mk rfl rfl) (.mk (v := .bool _) rfl rfl)) ?_
        refine WL.nil (hK _ _ ?_); clear hK
        refine WC.cond_true (.mk rfl rfl) ?_
        refine WC.seq fun K hK => ?_
        refine WC.region rfl ?_
        refine wMS rfl rfl rfl rfl rfl ?_
        refine wMI rfl rfl rfl rfl rfl ?_
        refine wG rfl rfl (g_indexAddr (sz := 1) rfl (.mk rfl rfl) (.mk rfl rfl) rfl rfl rfl (by omega) (fun _ _ => rfl)) ?_
        refine WL.want rfl (WL1.storeV1 rfl rfl (.mk rfl rfl) (.mk (v := .bool _) rfl rfl) rfl rfl (by first | omega | (simp; done) | (simp; omega)) (.head) ?_)
        refine WL.nil (hK _ _ ?_); clear hK
        refine WC.region rfl ?_
        refine wMI rfl rfl rfl rfl rfl ?_
        refine wG rfl rfl (g_add rfl (.mk rfl rfl) (.mk rfl rfl) (IntWalk.i64_in _ (by omega))) ?_
        refine wAI rfl rfl rfl rfl rfl ?_
        refine WL.nil (hK _ _ ?_); clear hK
        refine WC.region rfl ?_
        refine wG rfl rfl (g_add rfl (.mk rfl rfl) (.mk rfl rfl) (IntWalk.i64_in _ (by omega))) ?_
        refine wMI rfl rfl rfl rfl rfl ?_
        refine WL.nil ?_
        refine ⟨i + 1, (by repeat (first | with_reducible exact Out.refl _ _ | refine Out.set rfl ?_ | refine Out.put rfl ?_ | refine Out.sets rfl ?_ | refine Out.hav rfl ?_ | exact Out.refl _ _)), ⟨rfl, by rw [hcs]; rfl, trivial⟩, ?_, by omega, by omega⟩
        rw [Nat.mul_one, bls_set, mkP_set hlt hmb]
        exact .refl _
      · rw [if_neg (fun h => hc h.2)] at hcs
        rw [decide_eq_false (fun h => hc h.2)] at hmb
        generalize s / 2 ^ i = z at *
        refine WC.seq fun K hK => ?_
        refine WC.region rfl ?_
        refine wG rfl rfl (g_lt rfl (.mk rfl rfl) (.mk rfl rfl) (decide_eq_true (by omega))) ?_
        refine WL.nil (hK _ _ ?_); clear hK
        refine WC.seq fun K hK => ?_
        refine WC.cond_true (.mk rfl rfl) ?_
        refine WC.skip ?_
        (refine hK _ _ ?_; clear hK)
        refine WC.seq fun K hK => ?_
        refine WC.block ?_
        refine WC.seq fun K hK => ?_
        refine WC.region rfl ?_
        refine wMI rfl rfl rfl rfl rfl ?_
        refine wAI rfl rfl rfl rfl rfl ?_
        refine WL.nil (hK _ _ ?_); clear hK
        refine WC.seq fun K hK => ?_
        refine WC.region rfl ?_
        refine wMI rfl rfl rfl rfl rfl ?_
        refine wMI rfl rfl rfl rfl rfl ?_
        refine wG rfl rfl (g_shr rfl (.mk rfl rfl) (.mk rfl rfl) (by omega) hshr) ?_
        refine wG rfl rfl (g_and rfl (.mk rfl rfl) (.mk rfl rfl) hand) ?_
        refine wG rfl rfl (g_eq rfl (.mk rfl rfl) (.mk rfl rfl) (decide_eq_true (by omega))) ?_
        refine wMB rfl rfl rfl rfl rfl ?_
        refine WL.wantG rfl rfl rfl rfl (WL1.give rfl (g_move rfl (.mk (v := .int _ _) rfl rfl)) ?_)
        refine WL.wantG rfl rfl rfl rfl (WL1.give rfl (g_lt rfl (.mk rfl rfl) (.mk rfl rfl) (decide_eq_false (by omega))) ?_)
        refine wG rfl rfl (g_pickT rfl (.mk rfl rfl) (.mk (v := .bool _) rfl rfl)) ?_
        refine WL.nil (hK _ _ ?_); clear hK
        refine WC.cond_false (.mk rfl rfl) ?_
        refine WC.skip ?_
        (refine hK _ _ ?_; clear hK)
        refine WC.region rfl ?_
        refine wG rfl rfl (g_add rfl (.mk rfl rfl) (.mk rfl rfl) (IntWalk.i64_in _ (by omega))) ?_
        refine wMI rfl rfl rfl rfl rfl ?_
        refine WL.nil ?_
        refine ⟨i + 1, (by repeat (first | with_reducible exact Out.refl _ _ | refine Out.set rfl ?_ | refine Out.put rfl ?_ | refine Out.sets rfl ?_ | refine Out.hav rfl ?_ | exact Out.refl _ _)), ⟨rfl, by rw [hcs]; rfl, trivial⟩, ?_, by omega, by omega⟩
        rw [← mkP_skip hmb]
        exact .refl _
    · have hbb : ¬ bitB s i = true := fun h => hb (of_decide_eq_true h)
      rw [if_neg (fun h => hbb h.1)] at hcs
      rw [decide_eq_false (fun h => hbb h.1)] at hmb
      generalize s / 2 ^ i = z at *
      refine WC.seq fun K hK => ?_
      refine WC.region rfl ?_
      refine wG rfl rfl (g_lt rfl (.mk rfl rfl) (.mk rfl rfl) (decide_eq_true (by omega))) ?_
      refine WL.nil (hK _ _ ?_); clear hK
      refine WC.seq fun K hK => ?_
      refine WC.cond_true (.mk rfl rfl) ?_
      refine WC.skip ?_
      (refine hK _ _ ?_; clear hK)
      refine WC.seq fun K hK => ?_
      refine WC.block ?_
      refine WC.seq fun K hK => ?_
      refine WC.region rfl ?_
      refine wMI rfl rfl rfl rfl rfl ?_
      refine wAI rfl rfl rfl rfl rfl ?_
      refine WL.nil (hK _ _ ?_); clear hK
      refine WC.seq fun K hK => ?_
      refine WC.region rfl ?_
      refine wMI rfl rfl rfl rfl rfl ?_
      refine wMI rfl rfl rfl rfl rfl ?_
      refine wG rfl rfl (g_shr rfl (.mk rfl rfl) (.mk rfl rfl) (by omega) hshr) ?_
      refine wG rfl rfl (g_and rfl (.mk rfl rfl) (.mk rfl rfl) hand) ?_
      refine wG rfl rfl (g_eq rfl (.mk rfl rfl) (.mk rfl rfl) (decide_eq_false (by omega))) ?_
      refine wMB rfl rfl rfl rfl rfl ?_
      refine WL.skipG rfl rfl rfl rfl rfl rfl ?_
      refine WL.skipG rfl rfl rfl rfl rfl rfl ?_
      refine wG rfl rfl (g_pickF rfl (.mk rfl rfl) (.mk (v := .bool _) rfl rfl)) ?_
      refine WL.nil (hK _ _ ?_); clear hK
      refine WC.cond_false (.mk rfl rfl) ?_
      refine WC.skip ?_
      (refine hK _ _ ?_; clear hK)
      refine WC.region rfl ?_
      refine wG rfl rfl (g_add rfl (.mk rfl rfl) (.mk rfl rfl) (IntWalk.i64_in _ (by omega))) ?_
      refine wMI rfl rfl rfl rfl rfl ?_
      refine WL.nil ?_
      refine ⟨i + 1, (by repeat (first | with_reducible exact Out.refl _ _ | refine Out.set rfl ?_ | refine Out.put rfl ?_ | refine Out.sets rfl ?_ | refine Out.hav rfl ?_ | exact Out.refl _ _)), ⟨rfl, by rw [hcs]; rfl, trivial⟩, ?_, by omega, by omega⟩
      rw [← mkP_skip hmb]
      exact .refl _
  · obtain rfl : i = m := by omega
    rw [mkP_all]
    refine WC.seq fun K hK => ?_
    refine WC.region rfl ?_
    refine wG rfl rfl (g_lt rfl (.mk rfl rfl) (.mk rfl rfl) (decide_eq_false (by omega))) ?_
    refine WL.nil (hK _ _ ?_); clear hK
    refine WC.seq fun K hK => ?_
    refine WC.cond_false (.mk rfl rfl) ?_
    refine WC.exit ?_
    (clear hK; refine hK _ _ ?_; clear hK)
    refine WC.seq fun K hK => ?_
    refine WC.region rfl ?_
    refine wMS rfl rfl rfl rfl rfl ?_
    refine wAS rfl rfl rfl rfl rfl ?_
    refine WL.nil (hK _ _ ?_); clear hK
    refine WC.ret ?_
    exact fun w' hw' => ⟨_, _, rfl, hw', b9, rfl, rfl⟩
end Go.Proofs.YtdcijljfgcjelaaGreat
namespace Go.Proofs.YtdcijljfgcjelaaGreat
set_option maxRecDepth 20000
open Go.RowKit
attribute [local irreducible] Calls
abbrev u64s (l : List Nat) : List Value := l.map fun n : Nat => u64 n
abbrev LFT : TypeId := 34
abbrev UT : TypeId := 39
theorem u64s_len (l : List Nat) : (u64s l).length = l.length := List.length_map ..
theorem u64s_get {l : List Nat} {k : Nat} (h : k < l.length) : (u64s l)[k * 1]? = some (u64 (nth l k)) := by
  rw [Nat.mul_one, List.getElem?_map, List.getElem?_eq_getElem h, nth_eq h]; rfl
theorem u64s_one (l : List Nat) : ∀ u ∈ u64s l, u.oneCell' = true := by
  intro u hu
  obtain ⟨x, _, rfl⟩ := List.mem_map.1 hu
  rfl
theorem u64s_set {l : List Nat} {i : Nat} {k v : Nat} (h : i = k * 1) : (u64s l).set i (u64 v) = u64s (l.set k v) := by
  rw [h, Nat.mul_one]; unfold u64s; rw [List.map_set]
theorem elU : Elem Tryz.prog 32 UT (.int .u64 0) 1 8 := ⟨by kernel_rfl, by kernel_rfl, rfl, by decide⟩
abbrev lfV (A : Option Addr) (c : Nat) (B : Option Addr) (d m : Nat) : Value := .agg #[.slice A m c, .slice B m d]
set_option maxHeartbeats 1000000 in
theorem ppieces_e (A B : Option Addr) (c d m : Nat) (w : World) : Calls Tryz.prog 36 #[lfV A c B d m] w fun e w' => e = .returned (iv m) ∧ Below w.heap.size w w' := by
  have hmin : (if (m : Int) < m then (m : Int) else m) = m := by split <;> rfl
  refine calls_wc (args := [lfV A c B d m]) [2] [] Tryz.func36 rfl Tryz.ntmps36 rfl rfl rfl rfl (H.refl _) ?_
  refine WC.seq fun K hK => ?_
  refine WC.region rfl ?_
  refine WL.want rfl (WL1.box rfl rfl (.mk (v := .agg _) rfl rfl) rfl (fun b1 => ?_))
  refine wAI rfl rfl rfl rfl rfl ?_
  refine WL.nil (hK _ _ ?_); clear hK
  refine WC.seq fun K hK => ?_
  refine WC.region rfl ?_
  refine wG rfl rfl (g_fieldAddr (off := 0) rfl (.mk rfl rfl) rfl (fun _ _ => rfl)) ?_
  refine wG rfl rfl (g_load rfl (.mk rfl rfl) rfl (rd_pt (.head _) rfl)) ?_
  refine wG rfl rfl (g_len rfl (.mk rfl rfl) rfl) ?_
  refine wG rfl rfl (g_fieldAddr (off := 1) rfl (.mk rfl rfl) rfl (fun _ _ => rfl)) ?_
  refine wG rfl rfl (g_load rfl (.mk rfl rfl) rfl (rd_pt (.head _) rfl)) ?_
  refine wG rfl rfl (g_len rfl (.mk rfl rfl) rfl) ?_
  refine wG rfl rfl (g_min rfl (.mk rfl rfl) (.mk rfl rfl) (if_neg (by omega))) ?_
  refine wAI rfl rfl rfl rfl rfl ?_
  refine WL.nil (hK _ _ ?_); clear hK
  refine WC.ret ?_
  exact fun w' hw' => ⟨rfl, hw'.1⟩
def gdB (vs ss : List Nat) (g i v : Nat) (d : Blk) : Bool := decide (nth vs i = v ∧ nth ss i = sumN g i v d)
set_option maxHeartbeats 4000000 in
theorem pgood_e {A B : Option Addr} {c d m g i v : Nat} {vs ss : List Nat} {dt : Blk} (w : World) (hA : Sl w 1 (.slice A m c) m (u64s vs)) (hB : Sl w 1 (.slice B m d) m (u64s ss)) (hvl : vs.length = m) (hsl : ss.length = m) (hi : i < m) (hm : m ≤ 16) (hg : g < 2 ^ 32) :
    Calls Tryz.prog 38 #[lfV A c B d m, iv g, iv i, u64 v, kv dt] w fun e w' => e = .returned (.bool (gdB vs ss g i v dt)) ∧ Below w.heap.size w w' := by
  have g1 := u64s_get (l := vs) (k := i) (by omega)
  have g2 := u64s_get (l := ss) (k := i) (by omega)
  have hps := fun w => psum_e g i v dt w hg (by omega)
  have gk : ∀ j u, dt.cells[j]? = some u → dt.cells[0 + (0 + j)]? = some u := fun j u h => by rw [Nat.zero_add, Nat.zero_add]; exact h
  unfold gdB
  generalize sumN g i v dt = S at *
  by_cases h1 : nth vs i = v
  · by_cases h2 : nth ss i = S
    · rw [decide_eq_true ⟨h1, h2⟩]
      generalize nth vs i = x at *
      generalize nth ss i = y at *
      refine calls_wc (args := [lfV A c B d m, iv g, iv i, u64 v, kv dt]) [10] [] Tryz.func38 rfl Tryz.ntmps38 rfl rfl rfl rfl (H.refl _) ?_
      refine WC.seq fun K hK => ?_
      refine WC.region rfl ?_
      refine WL.want rfl (WL1.box rfl rfl (.mk (v := .agg _) rfl rfl) rfl (fun b5 => ?_))
      refine WL.want rfl (WL1.box rfl rfl (.mk (v := .agg _) rfl rfl) rfl (fun b9 => ?_))
      refine wAB rfl rfl rfl rfl rfl ?_
      refine WL.nil (hK _ _ ?_); clear hK
      refine WC.seq fun K hK => ?_
      refine WC.quiet rfl (by kernel_rfl) (by decide +kernel) ?_
      refine WQ.want rfl (WQ1.give rfl (g_move rfl (.mk (v := .int _ _) rfl rfl)) ?_)
      refine WQ.want rfl (WQ1.give rfl (g_ge rfl (.mk rfl rfl) (.mk rfl rfl) (decide_eq_true (by omega))) ?_)
      refine WQ.want rfl (WQ1.give rfl (g_move rfl (.mk (v := .bool _) rfl rfl)) ?_)
      refine WQ.wantG rfl rfl rfl rfl (WQ1.give rfl (g_move rfl (.mk (v := .int _ _) rfl rfl)) ?_)
      refine WQ.wantG rfl rfl rfl rfl (WQ1.give rfl (g_loadA rfl (.mk rfl rfl) rfl rfl (rdr_pt (.tail _ (.head _)) (fun j u h => by simpa using h))) ?_)
      refine WQ.wantG rfl rfl rfl rfl (WQ1.callP rfl rfl rfl (.cons (.mk (v := .agg _) rfl rfl) .nil) (fun w hw => ppieces_e A B c d m w) ?_)
      refine WQ.wantG rfl rfl rfl rfl (WQ1.give rfl (g_lt rfl (.mk rfl rfl) (.mk rfl rfl) (decide_eq_true (by omega))) ?_)
      refine WQ.want rfl (WQ1.give rfl (g_pickT rfl (.mk rfl rfl) (.mk (v := .bool _) rfl rfl)) ?_)
      refine WQ.want rfl (WQ1.give rfl (g_move rfl (.mk (v := .bool _) rfl rfl)) ?_)
      refine WQ.wantG rfl rfl rfl rfl (WQ1.give rfl (g_fieldAddr (off := 0) rfl (.mk rfl rfl) rfl (fun _ _ => rfl)) ?_)
      refine WQ.wantG rfl rfl rfl rfl (WQ1.give rfl (g_load rfl (.mk rfl rfl) rfl (rd_pt (.tail _ (.head _)) rfl)) ?_)
      refine WQ.wantG rfl rfl rfl rfl (WQ1.give rfl (g_move rfl (.mk (v := .int _ _) rfl rfl)) ?_)
      refine WQ.wantG rfl rfl rfl rfl (WQ1.give rfl (g_indexAddr (sz := 1) rfl (.mk rfl rfl) (.mk rfl rfl) rfl rfl rfl (by omega) (fun _ _ => sl_some hA (by omega))) ?_)
      refine WQ.wantG rfl rfl rfl rfl (WQ1.give rfl (g_load rfl (.mk rfl rfl) rfl (rd_sl hA g1)) ?_)
      refine WQ.wantG rfl rfl rfl rfl (WQ1.give rfl (g_move rfl (.mk (v := .int _ _) rfl rfl)) ?_)
      refine WQ.wantG rfl rfl rfl rfl (WQ1.give rfl (g_eq rfl (.mk rfl rfl) (.mk rfl rfl) (decide_eq_true (by omega))) ?_)
      refine WQ.want rfl (WQ1.give rfl (g_pickT rfl (.mk rfl rfl) (.mk (v := .bool _) rfl rfl)) ?_)
      refine WQ.want rfl (WQ1.give rfl (g_move rfl (.mk (v := .bool _) rfl rfl)) ?_)
      refine WQ.wantG rfl rfl rfl rfl (WQ1.give rfl (g_fieldAddr (off := 1) rfl (.mk rfl rfl) rfl (fun _ _ => rfl)) ?_)
      refine WQ.wantG rfl rfl rfl rfl (WQ1.give rfl (g_load rfl (.mk rfl rfl) rfl (rd_pt (.tail _ (.head _)) rfl)) ?_)
      refine WQ.wantG rfl rfl rfl rfl (WQ1.give rfl (g_move rfl (.mk (v := .int _ _) rfl rfl)) ?_)
      refine WQ.wantG rfl rfl rfl rfl (WQ1.give rfl (g_indexAddr (sz := 1) rfl (.mk rfl rfl) (.mk rfl rfl) rfl rfl rfl (by omega) (fun _ _ => sl_some hB (by omega))) ?_)
      refine WQ.wantG rfl rfl rfl rfl (WQ1.give rfl (g_load rfl (.mk rfl rfl) rfl (rd_sl hB g2)) ?_)
      refine WQ.wantG rfl rfl rfl rfl (WQ1.give rfl (g_move rfl (.mk (v := .int _ _) rfl rfl)) ?_)
      refine WQ.wantG rfl rfl rfl rfl (WQ1.give rfl (g_move rfl (.mk (v := .int _ _) rfl rfl)) ?_)
      refine WQ.wantG rfl rfl rfl rfl (WQ1.give rfl (g_move rfl (.mk (v := .int _ _) rfl rfl)) ?_)
      refine WQ.wantG rfl rfl rfl rfl (WQ1.give rfl (g_loadA rfl (.mk rfl rfl) rfl (sz8 _) (rdr_pt (cs := dt.cells) (by first | ((repeat (first | exact .head _ | apply List.Mem.tail)); done) | fail) gk)) ?_)
      refine WQ.wantG rfl rfl rfl rfl (WQ1.callP rfl rfl rfl (.cons (.mk (v := .int _ _) rfl rfl) (.cons (.mk (v := .int _ _) rfl rfl) (.cons (.mk (v := .int _ _) rfl rfl) (.cons (.mk (v := .agg _) rfl rfl) .nil)))) (fun w hw => hps w) ?_)
      refine WQ.wantG rfl rfl rfl rfl (WQ1.give rfl (g_eq rfl (.mk rfl rfl) (.mk rfl rfl) (decide_eq_true (by omega))) ?_)
      refine WQ.want rfl (WQ1.give rfl (g_pickT rfl (.mk rfl rfl) (.mk (v := .bool _) rfl rfl)) ?_)
      refine WQ.want rfl (WQ1.give rfl (g_assign rfl (.mk (v := .bool _) rfl rfl)) ?_)
      refine WQ.nil ?_
      (refine hK _ _ ?_; clear hK)
      refine WC.ret ?_
      exact fun w' hw' => ⟨rfl, hw'.1⟩
    · rw [decide_eq_false fun h => h2 h.2]
      generalize nth vs i = x at *
      generalize nth ss i = y at *
      refine calls_wc (args := [lfV A c B d m, iv g, iv i, u64 v, kv dt]) [10] [] Tryz.func38 rfl Tryz.ntmps38 rfl rfl rfl rfl (H.refl _) ?_
      refine WC.seq fun K hK => ?_
      refine WC.region rfl ?_
      refine WL.want rfl (WL1.box rfl rfl (.mk (v := .agg _) rfl rfl) rfl (fun b5 => ?_))
      refine WL.want rfl (WL1.box rfl rfl (.mk (v := .agg _) rfl rfl) rfl (fun b9 => ?_))
      refine wAB rfl rfl rfl rfl rfl ?_
      refine WL.nil (hK _ _ ?_); clear hK
      refine WC.seq fun K hK => ?_
      refine WC.quiet rfl (by kernel_rfl) (by decide +kernel) ?_
      refine WQ.want rfl (WQ1.give rfl (g_move rfl (.mk (v := .int _ _) rfl rfl)) ?_)
      refine WQ.want rfl (WQ1.give rfl (g_ge rfl (.mk rfl rfl) (.mk rfl rfl) (decide_eq_true (by omega))) ?_)
      refine WQ.want rfl (WQ1.give rfl (g_move rfl (.mk (v := .bool _) rfl rfl)) ?_)
      refine WQ.wantG rfl rfl rfl rfl (WQ1.give rfl (g_move rfl (.mk (v := .int _ _) rfl rfl)) ?_)
      refine WQ.wantG rfl rfl rfl rfl (WQ1.give rfl (g_loadA rfl (.mk rfl rfl) rfl rfl (rdr_pt (.tail _ (.head _)) (fun j u h => by simpa using h))) ?_)
      refine WQ.wantG rfl rfl rfl rfl (WQ1.callP rfl rfl rfl (.cons (.mk (v := .agg _) rfl rfl) .nil) (fun w hw => ppieces_e A B c d m w) ?_)
      refine WQ.wantG rfl rfl rfl rfl (WQ1.give rfl (g_lt rfl (.mk rfl rfl) (.mk rfl rfl) (decide_eq_true (by omega))) ?_)
      refine WQ.want rfl (WQ1.give rfl (g_pickT rfl (.mk rfl rfl) (.mk (v := .bool _) rfl rfl)) ?_)
      refine WQ.want rfl (WQ1.give rfl (g_move rfl (.mk (v := .bool _) rfl rfl)) ?_)
      refine WQ.wantG rfl rfl rfl rfl (WQ1.give rfl (g_fieldAddr (off := 0) rfl (.mk rfl rfl) rfl (fun _ _ => rfl)) ?_)
      refine WQ.wantG rfl rfl rfl rfl (WQ1.give rfl (g_load rfl (.mk rfl rfl) rfl (rd_pt (.tail _ (.head _)) rfl)) ?_)
      refine WQ.wantG rfl rfl rfl rfl (WQ1.give rfl (g_move rfl (.mk (v := .int _ _) rfl rfl)) ?_)
      refine WQ.wantG rfl rfl rfl rfl (WQ1.give rfl (g_indexAddr (sz := 1) rfl (.mk rfl rfl) (.mk rfl rfl) rfl rfl rfl (by omega) (fun _ _ => sl_some hA (by omega))) ?_)
      refine WQ.wantG rfl rfl rfl rfl (WQ1.give rfl (g_load rfl (.mk rfl rfl) rfl (rd_sl hA g1)) ?_)
      refine WQ.wantG rfl rfl rfl rfl (WQ1.give rfl (g_move rfl (.mk (v := .int _ _) rfl rfl)) ?_)
      refine WQ.wantG rfl rfl rfl rfl (WQ1.give rfl (g_eq rfl (.mk rfl rfl) (.mk rfl rfl) (decide_eq_true (by omega))) ?_)
      refine WQ.want rfl (WQ1.give rfl (g_pickT rfl (.mk rfl rfl) (.mk (v := .bool _) rfl rfl)) ?_)
      refine WQ.want rfl (WQ1.give rfl (g_move rfl (.mk (v := .bool _) rfl rfl)) ?_)
      refine WQ.wantG rfl rfl rfl rfl (WQ1.give rfl (g_fieldAddr (off := 1) rfl (.mk rfl rfl) rfl (fun _ _ => rfl)) ?_)
      refine WQ.wantG rfl rfl rfl rfl (WQ1.give rfl (g_load rfl (.mk rfl rfl) rfl (rd_pt (.tail _ (.head _)) rfl)) ?_)
      refine WQ.wantG rfl rfl rfl rfl (WQ1.give rfl (g_move rfl (.mk (v := .int _ _) rfl rfl)) ?_)
      refine WQ.wantG rfl rfl rfl rfl (WQ1.give rfl (g_indexAddr (sz := 1) rfl (.mk rfl rfl) (.mk rfl rfl) rfl rfl rfl (by omega) (fun _ _ => sl_some hB (by omega))) ?_)
      refine WQ.wantG rfl rfl rfl rfl (WQ1.give rfl (g_load rfl (.mk rfl rfl) rfl (rd_sl hB g2)) ?_)
      refine WQ.wantG rfl rfl rfl rfl (WQ1.give rfl (g_move rfl (.mk (v := .int _ _) rfl rfl)) ?_)
      refine WQ.wantG rfl rfl rfl rfl (WQ1.give rfl (g_move rfl (.mk (v := .int _ _) rfl rfl)) ?_)
      refine WQ.wantG rfl rfl rfl rfl (WQ1.give rfl (g_move rfl (.mk (v := .int _ _) rfl rfl)) ?_)
      refine WQ.wantG rfl rfl rfl rfl (WQ1.give rfl (g_loadA rfl (.mk rfl rfl) rfl (sz8 _) (rdr_pt (cs := dt.cells) (by first | ((repeat (first | exact .head _ | apply List.Mem.tail)); done) | fail) gk)) ?_)
      refine WQ.wantG rfl rfl rfl rfl (WQ1.callP rfl rfl rfl (.cons (.mk (v := .int _ _) rfl rfl) (.cons (.mk (v := .int _ _) rfl rfl) (.cons (.mk (v := .int _ _) rfl rfl) (.cons (.mk (v := .agg _) rfl rfl) .nil)))) (fun w hw => hps w) ?_)
      refine WQ.wantG rfl rfl rfl rfl (WQ1.give rfl (g_eq rfl (.mk rfl rfl) (.mk rfl rfl) (decide_eq_false (by omega))) ?_)
      refine WQ.want rfl (WQ1.give rfl (g_pickT rfl (.mk rfl rfl) (.mk (v := .bool _) rfl rfl)) ?_)
      refine WQ.want rfl (WQ1.give rfl (g_assign rfl (.mk (v := .bool _) rfl rfl)) ?_)
      refine WQ.nil ?_
      (refine hK _ _ ?_; clear hK)
      refine WC.ret ?_
      exact fun w' hw' => ⟨rfl, hw'.1⟩
  · rw [decide_eq_false fun h => h1 h.1]
    generalize nth vs i = x at *
    refine calls_wc (args := [lfV A c B d m, iv g, iv i, u64 v, kv dt]) [10] [] Tryz.func38 rfl Tryz.ntmps38 rfl rfl rfl rfl (H.refl _) ?_
    refine WC.seq fun K hK => ?_
    refine WC.region rfl ?_
    refine WL.want rfl (WL1.box rfl rfl (.mk (v := .agg _) rfl rfl) rfl (fun b5 => ?_))
    refine WL.want rfl (WL1.box rfl rfl (.mk (v := .agg _) rfl rfl) rfl (fun b9 => ?_))
    refine wAB rfl rfl rfl rfl rfl ?_
    refine WL.nil (hK _ _ ?_); clear hK
    refine WC.seq fun K hK => ?_
    refine WC.quiet rfl (by kernel_rfl) (by decide +kernel) ?_
    refine WQ.want rfl (WQ1.give rfl (g_move rfl (.mk (v := .int _ _) rfl rfl)) ?_)
    refine WQ.want rfl (WQ1.give rfl (g_ge rfl (.mk rfl rfl) (.mk rfl rfl) (decide_eq_true (by omega))) ?_)
    refine WQ.want rfl (WQ1.give rfl (g_move rfl (.mk (v := .bool _) rfl rfl)) ?_)
    refine WQ.wantG rfl rfl rfl rfl (WQ1.give rfl (g_move rfl (.mk (v := .int _ _) rfl rfl)) ?_)
    refine WQ.wantG rfl rfl rfl rfl (WQ1.give rfl (g_loadA rfl (.mk rfl rfl) rfl rfl (rdr_pt (.tail _ (.head _)) (fun j u h => by simpa using h))) ?_)
    refine WQ.wantG rfl rfl rfl rfl (WQ1.callP rfl rfl rfl (.cons (.mk (v := .agg _) rfl rfl) .nil) (fun w hw => ppieces_e A B c d m w) ?_)
    refine WQ.wantG rfl rfl rfl rfl (WQ1.give rfl (g_lt rfl (.mk rfl rfl) (.mk rfl rfl) (decide_eq_true (by omega))) ?_)
    refine WQ.want rfl (WQ1.give rfl (g_pickT rfl (.mk rfl rfl) (.mk (v := .bool _) rfl rfl)) ?_)
    refine WQ.want rfl (WQ1.give rfl (g_move rfl (.mk (v := .bool _) rfl rfl)) ?_)
    refine WQ.wantG rfl rfl rfl rfl (WQ1.give rfl (g_fieldAddr (off := 0) rfl (.mk rfl rfl) rfl (fun _ _ => rfl)) ?_)
    refine WQ.wantG rfl rfl rfl rfl (WQ1.give rfl (g_load rfl (.mk rfl rfl) rfl (rd_pt (.tail _ (.head _)) rfl)) ?_)
    refine WQ.wantG rfl rfl rfl rfl (WQ1.give rfl (g_move rfl (.mk (v := .int _ _) rfl rfl)) ?_)
    refine WQ.wantG rfl rfl rfl rfl (WQ1.give rfl (g_indexAddr (sz := 1) rfl (.mk rfl rfl) (.mk rfl rfl) rfl rfl rfl (by omega) (fun _ _ => sl_some hA (by omega))) ?_)
    refine WQ.wantG rfl rfl rfl rfl (WQ1.give rfl (g_load rfl (.mk rfl rfl) rfl (rd_sl hA g1)) ?_)
    refine WQ.wantG rfl rfl rfl rfl (WQ1.give rfl (g_move rfl (.mk (v := .int _ _) rfl rfl)) ?_)
    refine WQ.wantG rfl rfl rfl rfl (WQ1.give rfl (g_eq rfl (.mk rfl rfl) (.mk rfl rfl) (decide_eq_false (by omega))) ?_)
    refine WQ.want rfl (WQ1.give rfl (g_pickT rfl (.mk rfl rfl) (.mk (v := .bool _) rfl rfl)) ?_)
    refine WQ.want rfl (WQ1.give rfl (g_move rfl (.mk (v := .bool _) rfl rfl)) ?_)
    refine WQ.skipG rfl rfl rfl rfl rfl rfl ?_
    refine WQ.skipG rfl rfl rfl rfl rfl rfl ?_
    refine WQ.skipG rfl rfl rfl rfl rfl rfl ?_
    refine WQ.skipG rfl rfl rfl rfl rfl rfl ?_
    refine WQ.skipG rfl rfl rfl rfl rfl rfl ?_
    refine WQ.skipG rfl rfl rfl rfl rfl rfl ?_
    refine WQ.skipG rfl rfl rfl rfl rfl rfl ?_
    refine WQ.skipG rfl rfl rfl rfl rfl rfl ?_
    refine WQ.skipG rfl rfl rfl rfl rfl rfl ?_
    refine WQ.skipG rfl rfl rfl rfl rfl rfl ?_
    refine WQ.skipG rfl rfl rfl rfl rfl rfl ?_
    refine WQ.want rfl (WQ1.give rfl (g_pickF rfl (.mk rfl rfl) (.mk (v := .bool _) rfl rfl)) ?_)
    refine WQ.want rfl (WQ1.give rfl (g_assign rfl (.mk (v := .bool _) rfl rfl)) ?_)
    refine WQ.nil ?_
    (refine hK _ _ ?_; clear hK)
    refine WC.ret ?_
    exact fun w' hw' => ⟨rfl, hw'.1⟩
def fvN (vers : List Nat) (pr : List Bool) (i : Nat) : Nat := if nth pr i then nth vers i else 0
def fbB (dat : List Blk) (pr : List Bool) (i : Nat) : Blk := if nth pr i then nth dat i else 0
def bdL (vs ss vers : List Nat) (dat : List Blk) (pr : List Bool) (g n : Nat) : List Bool := (List.range n).map fun i => !gdB vs ss g i (fvN vers pr i) (fbB dat pr i)
theorem bdL_snoc (vs ss vers : List Nat) (dat : List Blk) (pr : List Bool) (g n : Nat) : bdL vs ss vers dat pr g (n + 1) = bdL vs ss vers dat pr g n ++ [!gdB vs ss g n (fvN vers pr n) (fbB dat pr n)] := by simp [bdL, List.range_succ]
theorem bls_snoc (l : List Bool) (b : Bool) : bls l ++ [.bool b] = bls (l ++ [b]) := by simp [bls]
set_option maxHeartbeats 4000000 in
theorem pbad_n {A B C D F : Option Addr} {c d cc cd cf m g : Nat} {vs ss vers : List Nat} {dat : List Blk} {pr : List Bool} (w : World) (hA : Sl w 1 (.slice A m c) m (u64s vs)) (hB : Sl w 1 (.slice B m d) m (u64s ss)) (hC : Sl w 1 (.slice C m cc) m (u64s vers)) (hD : Sl w 8 (.slice D m cd) m (kvs dat)) (hF : Sl w 1 (.slice F m cf) m (bls pr))
    (hvl : vs.length = m) (hsl : ss.length = m) (hel : vers.length = m) (hdl : dat.length = m) (hpl : pr.length = m) (hm : m ≤ 16) (hg : g < 2 ^ 32) :
    Calls Tryz.prog 11 #[lfV A c B d m, iv g, .slice C m cc, .slice D m cd, .slice F m cf] w fun e w' => ∃ v M, e = .returned v ∧ H w M w' ∧ ∃ R r, v = .slice R m r ∧ M = [vec R m r 4 1 (bls (bdL vs ss vers dat pr g m))] := by
  have hgd := fun w' hb i v dt hi => pgood_e (v := v) (dt := dt) w' (hA.below (w' := w') hb) (hB.below hb) hvl hsl (i := i) hi hm hg
  refine calls_wc (args := [lfV A c B d m, iv g, .slice C m cc, .slice D m cd, .slice F m cf]) [10] [] Tryz.func11 rfl Tryz.ntmps11 rfl rfl rfl rfl (H.refl _) ?_
  refine WC.seq fun K hK => ?_
  refine WC.region rfl ?_
  refine WL.want rfl (WL1.box rfl rfl (.mk (v := .agg _) rfl rfl) rfl (fun b5 => ?_))
  refine wAS rfl rfl rfl rfl rfl ?_
  refine WL.nil (hK _ _ ?_); clear hK
  refine WC.seq fun K hK => ?_
  refine WC.region rfl ?_
  refine wAS rfl rfl rfl rfl rfl ?_
  refine WL.nil (hK _ _ ?_); clear hK
  refine WC.seq fun K hK => ?_
  refine WC.seq fun K hK => ?_
  refine WC.region rfl ?_
  refine wG rfl rfl (g_loadA rfl (.mk rfl rfl) rfl rfl (rdr_pt (.head _) (fun j u h => by simpa using h))) ?_
  refine WL.want rfl (WL1.callP rfl rfl rfl (.cons (.mk (v := .agg _) rfl rfl) .nil) (fun w hw => ppieces_e A B c d m w) ?_)
  refine wMI rfl rfl rfl rfl rfl ?_
  refine WL.nil (hK _ _ ?_); clear hK
  refine WC.block ?_
  refine WC.nilvec 4 1 ?_
  refine WC.loopF3 (fun (i : Nat) (R : Option Addr) (r : Nat) => [(17, iv i), (16, iv m), (11, .slice R i r), (1, iv g), (2, .slice C m cc), (3, .slice D m cd), (4, .slice F m cf), (5, cellPtr (some ⟨b5, 0, none⟩) 0)]) (fun i R r => [vec R i r 4 1 (bls (bdL vs ss vers dat pr g i)), pt b5 LFT [.slice A m c, .slice B m d]]) (fun i _ _ => i ≤ m) (fun i _ _ => m - i) 0 none 0 (by repeat (first | exact trivial | refine ⟨rfl, ?_⟩)) (Imp.pick (by repeat (first | exact .head | apply Take.tail)) (Imp.pick (by repeat (first | exact .head | apply Take.tail)) (Imp.nil _))) (by omega) ?_
  intro i R r U hi
  by_cases hlt : i < m
  · have gF := bls_get (l := pr) (k := i) (by omega)
    have hsn := bdL_snoc vs ss vers dat pr g i
    have hgi := fun w' hb v dt => hgd w' hb i v dt hlt
    have gz : ∀ j u, (0 : Blk).cells[j]? = some u → z8[0 + (0 + j)]? = some u := fun j u h => by rw [Nat.zero_add, Nat.zero_add, z8_zero]; exact h
    have gk : ∀ (x : Blk) j u, x.cells[j]? = some u → x.cells[0 + (0 + j)]? = some u := fun x j u h => by rw [Nat.zero_add, Nat.zero_add]; exact h
    unfold fvN fbB at hsn
    cases hp : nth pr i with
    | false =>
      rw [hp] at gF hsn
      simp only [Bool.false_eq_true, if_false] at hsn
      have hgi := fun w' hb => hgi w' hb 0 0
      generalize gdB vs ss g i 0 0 = q at *
      refine WC.seq fun K hK => ?_
      refine WC.region rfl ?_
      refine wG rfl rfl (g_lt rfl (.mk rfl rfl) (.mk rfl rfl) (decide_eq_true (by omega))) ?_
      refine WL.nil (hK _ _ ?_); clear hK
      refine WC.seq fun K hK => ?_
      refine WC.cond_true (.mk rfl rfl) ?_
      refine WC.skip ?_
      (refine hK _ _ ?_; clear hK)
      refine WC.seq fun K hK => ?_
      refine WC.block ?_
      refine WC.seq fun K hK => ?_
      refine WC.region rfl ?_
      refine wMI rfl rfl rfl rfl rfl ?_
      refine wAI rfl rfl rfl rfl rfl ?_
      refine WL.nil (hK _ _ ?_); clear hK
      refine WC.seq fun K hK => ?_
      refine WC.region rfl ?_
      refine wAI rfl rfl rfl rfl rfl ?_
      refine WL.nil (hK _ _ ?_); clear hK
      refine WC.seq fun K hK => ?_
      refine WC.region rfl ?_
      refine WL.want rfl (WL1.alloc rfl rfl rfl rfl (fun b14 => ?_))
      refine WL.nil (hK _ _ ?_); clear hK
      refine WC.seq fun K hK => ?_
      refine WC.seq fun K hK => ?_
      refine WC.region rfl ?_
      refine wMI rfl rfl rfl rfl rfl ?_
      refine wMS rfl rfl rfl rfl rfl ?_
      refine wG rfl rfl (g_len rfl (.mk rfl rfl) rfl) ?_
      refine wG rfl rfl (g_lt rfl (.mk rfl rfl) (.mk rfl rfl) (decide_eq_true (by omega))) ?_
      refine wMB rfl rfl rfl rfl rfl ?_
      refine WL.wantG rfl rfl rfl rfl (WL1.give rfl (g_move rfl (.mk (v := .slice _ _ _) rfl rfl)) ?_)
      refine WL.wantG rfl rfl rfl rfl (WL1.give rfl (g_move rfl (.mk (v := .int _ _) rfl rfl)) ?_)
      refine WL.wantG rfl rfl rfl rfl (WL1.give rfl (g_indexAddr (sz := 1) rfl (.mk rfl rfl) (.mk rfl rfl) rfl rfl rfl (by omega) (fun _ _ => sl_some hF (by omega))) ?_)
      refine WL.wantG rfl rfl rfl rfl (WL1.give rfl (g_load rfl (.mk rfl rfl) rfl (rd_sl hF gF)) ?_)
      refine wG rfl rfl (g_pickT rfl (.mk rfl rfl) (.mk (v := .bool _) rfl rfl)) ?_
      refine WL.nil (hK _ _ ?_); clear hK
      refine WC.cond_false (.mk rfl rfl) ?_
      refine WC.skip ?_
      (refine hK _ _ ?_; clear hK)
      refine WC.region rfl ?_
      refine wMS rfl rfl rfl rfl rfl ?_
      refine wG rfl rfl (g_loadA rfl (.mk rfl rfl) rfl rfl (rdr_pt (.tail _ (.tail _ (.head _))) (fun j u h => by simpa using h))) ?_
      refine wMI rfl rfl rfl rfl rfl ?_
      refine wMI rfl rfl rfl rfl rfl ?_
      refine wMI rfl rfl rfl rfl rfl ?_
      refine wG rfl rfl (g_loadA rfl (.mk rfl rfl) rfl rfl (rdr_pt (cs := (0 : Blk).cells) (by first | ((repeat (first | exact .head _ | apply List.Mem.tail)); done) | fail) gz)) ?_
      refine WL.want rfl (WL1.callP rfl rfl rfl (.cons (.mk (v := .agg _) rfl rfl) (.cons (.mk (v := .int _ _) rfl rfl) (.cons (.mk (v := .int _ _) rfl rfl) (.cons (.mk (v := .int _ _) rfl rfl) (.cons (.mk (v := .agg _) rfl rfl) .nil))))) (fun w hw => hgi w hw.1) ?_)
      refine wG rfl rfl (g_not rfl (.mk rfl rfl)) ?_
      refine WL.want rfl (WL1.lit (cs := [_]) elBo rfl rfl rfl (.cons (.mk (v := .bool _) rfl rfl) .nil) rfl (by first | (simp [Value.cells]; done) | fail) rfl rfl (fun b54 => ?_))
      refine WL.want rfl (WL1.append elBo rfl rfl (.mk rfl rfl) (.mk rfl rfl) (.tail (.tail (.head))) (fun w hw => Sl.of_vec hw (.head _)) (all1 rfl) (by unfold maxLen; omega) (by omega) (fun A55 c55 => ?_))
      refine wAS rfl rfl rfl rfl rfl ?_
      refine WL.nil (hK _ _ ?_); clear hK
      refine WC.region rfl ?_
      refine wG rfl rfl (g_add rfl (.mk rfl rfl) (.mk rfl rfl) (IntWalk.i64_in _ (by omega))) ?_
      refine wMI rfl rfl rfl rfl rfl ?_
      refine WL.nil ?_
      refine ⟨i + 1, A55, c55, (by repeat (first | exact trivial | refine ⟨rfl, ?_⟩)), ?_, by omega, by omega⟩
      rw [hsn, ← bls_snoc]
      exact Imp.pick (by repeat (first | exact .head | apply Take.tail)) (Imp.pick (by repeat (first | exact .head | apply Take.tail)) (Imp.nil _))
    | true =>
      rw [hp] at gF hsn
      simp only [if_true] at hsn
      have gC := u64s_get (l := vers) (k := i) (by omega)
      have gD : ∀ j u, (nth dat i).cells[j]? = some u → (kvs dat)[i * 8 + j]? = some u := fun j u h => flat_row blk8 (by omega) j u h
      have hgi := fun w' hb => hgi w' hb (nth vers i) (nth dat i)
      generalize gdB vs ss g i (nth vers i) (nth dat i) = q at *
      generalize nth vers i = x at *
      generalize nth dat i = y at *
      refine WC.seq fun K hK => ?_
      refine WC.region rfl ?_
      refine wG rfl rfl (g_lt rfl (.mk rfl rfl) (.mk rfl rfl) (decide_eq_true (by omega))) ?_
      refine WL.nil (hK _ _ ?_); clear hK
      refine WC.seq fun K hK => ?_
      refine WC.cond_true (.mk rfl rfl) ?_
      refine WC.skip ?_
      (refine hK _ _ ?_; clear hK)
      refine WC.seq fun K hK => ?_
      refine WC.block ?_
      refine WC.seq fun K hK => ?_
      refine WC.region rfl ?_
      refine wMI rfl rfl rfl rfl rfl ?_
      refine wAI rfl rfl rfl rfl rfl ?_
      refine WL.nil (hK _ _ ?_); clear hK
      refine WC.seq fun K hK => ?_
      refine WC.region rfl ?_
      refine wAI rfl rfl rfl rfl rfl ?_
      refine WL.nil (hK _ _ ?_); clear hK
      refine WC.seq fun K hK => ?_
      refine WC.region rfl ?_
      refine WL.want rfl (WL1.alloc rfl rfl rfl rfl (fun b14 => ?_))
      refine WL.nil (hK _ _ ?_); clear hK
      refine WC.seq fun K hK => ?_
      refine WC.seq fun K hK => ?_
      refine WC.region rfl ?_
      refine wMI rfl rfl rfl rfl rfl ?_
      refine wMS rfl rfl rfl rfl rfl ?_
      refine wG rfl rfl (g_len rfl (.mk rfl rfl) rfl) ?_
      refine wG rfl rfl (g_lt rfl (.mk rfl rfl) (.mk rfl rfl) (decide_eq_true (by omega))) ?_
      refine wMB rfl rfl rfl rfl rfl ?_
      refine WL.wantG rfl rfl rfl rfl (WL1.give rfl (g_move rfl (.mk (v := .slice _ _ _) rfl rfl)) ?_)
      refine WL.wantG rfl rfl rfl rfl (WL1.give rfl (g_move rfl (.mk (v := .int _ _) rfl rfl)) ?_)
      refine WL.wantG rfl rfl rfl rfl (WL1.give rfl (g_indexAddr (sz := 1) rfl (.mk rfl rfl) (.mk rfl rfl) rfl rfl rfl (by omega) (fun _ _ => sl_some hF (by omega))) ?_)
      refine WL.wantG rfl rfl rfl rfl (WL1.give rfl (g_load rfl (.mk rfl rfl) rfl (rd_sl hF gF)) ?_)
      refine wG rfl rfl (g_pickT rfl (.mk rfl rfl) (.mk (v := .bool _) rfl rfl)) ?_
      refine WL.nil (hK _ _ ?_); clear hK
      refine WC.cond_true (.mk rfl rfl) ?_
      refine WC.seq fun K hK => ?_
      refine WC.seq fun K hK => ?_
      refine WC.region rfl ?_
      refine wMI rfl rfl rfl rfl rfl ?_
      refine wMS rfl rfl rfl rfl rfl ?_
      refine wG rfl rfl (g_len rfl (.mk rfl rfl) rfl) ?_
      refine wG rfl rfl (g_lt rfl (.mk rfl rfl) (.mk rfl rfl) (decide_eq_true (by omega))) ?_
      refine WL.nil (hK _ _ ?_); clear hK
      refine WC.cond_true (.mk rfl rfl) ?_
      refine WC.region rfl ?_
      refine wMS rfl rfl rfl rfl rfl ?_
      refine wMI rfl rfl rfl rfl rfl ?_
      refine wG rfl rfl (g_indexAddr (sz := 1) rfl (.mk rfl rfl) (.mk rfl rfl) rfl rfl rfl (by omega) (fun _ _ => sl_some hC (by omega))) ?_
      refine wG rfl rfl (g_load rfl (.mk rfl rfl) rfl (rd_sl hC gC)) ?_
      refine wAI rfl rfl rfl rfl rfl ?_
      refine WL.nil (hK _ _ ?_); clear hK
      refine WC.seq fun K hK => ?_
      refine WC.region rfl ?_
      refine wMI rfl rfl rfl rfl rfl ?_
      refine wMS rfl rfl rfl rfl rfl ?_
      refine wG rfl rfl (g_len rfl (.mk rfl rfl) rfl) ?_
      refine wG rfl rfl (g_lt rfl (.mk rfl rfl) (.mk rfl rfl) (decide_eq_true (by omega))) ?_
      refine WL.nil (hK _ _ ?_); clear hK
      refine WC.cond_true (.mk rfl rfl) ?_
      refine WC.region rfl ?_
      refine wMS rfl rfl rfl rfl rfl ?_
      refine wMI rfl rfl rfl rfl rfl ?_
      refine wG rfl rfl (g_indexAddr (sz := 8) rfl (.mk rfl rfl) (.mk rfl rfl) rfl rfl rfl (by omega) (fun _ _ => sl_some hD (by omega))) ?_
      refine wG rfl rfl (g_loadA rfl (.mk rfl rfl) rfl (sz8 _) (rdr_sl (cs := y.cells) hD (by omega) gD)) ?_
      refine WL.want rfl (WL1.storeAll rfl rfl (.mk rfl rfl) (.mk rfl rfl) (sz8 _) (Blk.one _) (by first | rfl | (simp [Blk.len]; done)) (.head) ?_)
      refine WL.nil (hK _ _ ?_); clear hK
      refine WC.region rfl ?_
      refine wMS rfl rfl rfl rfl rfl ?_
      refine wG rfl rfl (g_loadA rfl (.mk rfl rfl) rfl rfl (rdr_pt (.tail _ (.tail _ (.head _))) (fun j u h => by simpa using h))) ?_
      refine wMI rfl rfl rfl rfl rfl ?_
      refine wMI rfl rfl rfl rfl rfl ?_
      refine wMI rfl rfl rfl rfl rfl ?_
      refine wG rfl rfl (g_loadA rfl (.mk rfl rfl) rfl (sz8 _) (rdr_pt (cs := y.cells) (by first | ((repeat (first | exact .head _ | apply List.Mem.tail)); done) | fail) (gk y))) ?_
      refine WL.want rfl (WL1.callP rfl rfl rfl (.cons (.mk (v := .agg _) rfl rfl) (.cons (.mk (v := .int _ _) rfl rfl) (.cons (.mk (v := .int _ _) rfl rfl) (.cons (.mk (v := .int _ _) rfl rfl) (.cons (.mk (v := .agg _) rfl rfl) .nil))))) (fun w hw => hgi w hw.1) ?_)
      refine wG rfl rfl (g_not rfl (.mk rfl rfl)) ?_
      refine WL.want rfl (WL1.lit (cs := [_]) elBo rfl rfl rfl (.cons (.mk (v := .bool _) rfl rfl) .nil) rfl (by first | (simp [Value.cells]; done) | fail) rfl rfl (fun b54 => ?_))
      refine WL.want rfl (WL1.append elBo rfl rfl (.mk rfl rfl) (.mk rfl rfl) (.tail (.tail (.head))) (fun w hw => Sl.of_vec hw (.head _)) (all1 rfl) (by unfold maxLen; omega) (by omega) (fun A55 c55 => ?_))
      refine wAS rfl rfl rfl rfl rfl ?_
      refine WL.nil (hK _ _ ?_); clear hK
      refine WC.region rfl ?_
      refine wG rfl rfl (g_add rfl (.mk rfl rfl) (.mk rfl rfl) (IntWalk.i64_in _ (by omega))) ?_
      refine wMI rfl rfl rfl rfl rfl ?_
      refine WL.nil ?_
      refine ⟨i + 1, A55, c55, (by repeat (first | exact trivial | refine ⟨rfl, ?_⟩)), ?_, by omega, by omega⟩
      rw [hsn, ← bls_snoc]
      exact Imp.pick (by repeat (first | exact .head | apply Take.tail)) (Imp.pick (by repeat (first | exact .head | apply Take.tail)) (Imp.nil _))
  · obtain rfl : i = m := by omega
    refine WC.seq fun K hK => ?_
    refine WC.region rfl ?_
    refine wG rfl rfl (g_lt rfl (.mk rfl rfl) (.mk rfl rfl) (decide_eq_false (by omega))) ?_
    refine WL.nil (hK _ _ ?_); clear hK
    refine WC.seq fun K hK => ?_
    refine WC.cond_false (.mk rfl rfl) ?_
    refine WC.exit ?_
    (clear hK; refine hK _ _ ?_; clear hK)
    refine WC.seq fun K hK => ?_
    refine WC.region rfl ?_
    refine wMS rfl rfl rfl rfl rfl ?_
    refine wAS rfl rfl rfl rfl rfl ?_
    refine WL.nil (hK _ _ ?_); clear hK
    refine WC.ret ?_
    exact fun w' hw' => ⟨_, _, rfl, (Imp.pick (by repeat (first | exact .head | apply Take.tail)) (Imp.nil _)).h hw', R, r, rfl, rfl⟩
set_option maxHeartbeats 1000000 in
theorem clone64_n {A : Option Addr} {c m : Nat} {l : List Nat} (w : World) (hs : Sl w 1 (.slice A m c) m (u64s l)) (h1 : 1 ≤ m) (h2 : m ≤ 1000) : Calls Tryz.prog 37 #[.slice A m c] w fun e w' => ∃ v' M, e = .returned v' ∧ H w M w' ∧
    ∃ R r, v' = .slice R m r ∧ M = [vec R m r UT 1 (u64s l)] := by
  have hA := sl_some hs (by omega)
  have hone := u64s_one l
  refine calls_wc (args := [.slice A m c]) [2] [] Tryz.func37 rfl Tryz.ntmps37 rfl rfl rfl rfl (H.refl _) ?_
  refine WC.seq fun K hK => ?_
  refine WC.region rfl ?_
  refine wAS rfl rfl rfl rfl rfl ?_
  refine WL.nil (hK _ _ ?_); clear hK
  refine WC.seq fun K hK => ?_
  refine WC.seq fun K hK => ?_
  refine WC.region rfl ?_
  refine wMS rfl rfl rfl rfl rfl ?_
  refine wG rfl rfl (g_eqSNS rfl rfl (.mk rfl rfl) (.mk rfl rfl) ((fun _ _ => sl_some hs (by omega)))) ?_
  refine WL.nil (hK _ _ ?_); clear hK
  refine WC.cond_false (.mk rfl rfl) ?_
  refine WC.skip ?_
  (refine hK _ _ ?_; clear hK)
  refine WC.seq fun K hK => ?_
  refine WC.region rfl ?_
  refine WL.want rfl (WL1.lit (cs := []) elU rfl rfl rfl .nil rfl (by first | (simp [Value.cells]; done) | fail) rfl rfl (fun b5 => ?_))
  refine wMS rfl rfl rfl rfl rfl ?_
  refine WL.want rfl (WL1.append elU rfl rfl (.mk rfl rfl) (.mk rfl rfl) (.head) (fun w hw => Sl.below hs hw.1) hone (by unfold maxLen; omega) (by omega) (fun A7 c7 => ?_))
  refine wAS rfl rfl rfl rfl rfl ?_
  refine WL.nil (hK _ _ ?_); clear hK
  refine WC.ret ?_
  exact fun w' hw' => ⟨_, _, rfl, hw', A7, c7, by show Value.slice A7 (0 + m) c7 = _; rw [Nat.zero_add], by rw [Nat.zero_add, List.nil_append]⟩
abbrev pwV (g i v : Nat) (d : Blk) : Value := .agg (iv g :: iv i :: u64 v :: d.cells).toArray
set_option maxHeartbeats 4000000 in
theorem pset_n {A B : Option Addr} {c d m g i v : Nat} {vs ss : List Nat} {dt : Blk} (w : World) (hA : Sl w 1 (.slice A m c) m (u64s vs)) (hB : Sl w 1 (.slice B m d) m (u64s ss)) (hvl : vs.length = m) (hsl : ss.length = m) (hi : i < m) (hm : m ≤ 16) (hg : g < 2 ^ 32) :
    Calls Tryz.prog 9 #[lfV A c B d m, pwV g i v dt] w fun e w' => ∃ u M, e = .returned u ∧ H w M w' ∧ ∃ R r S s, u = .tuple #[lfV R r S s m, iv 0] ∧ M = [vec R m r UT 1 (u64s (vs.set i v)), vec S m s UT 1 (u64s (ss.set i (sumN g i v dt)))] := by
  have hps := fun w => psum_e g i v dt w hg (by omega)
  have hmc : m ≤ c := by obtain ⟨_, _, _, e, h, _⟩ := hA; cases e; exact h
  have hmd : m ≤ d := by obtain ⟨_, _, _, e, h, _⟩ := hB; cases e; exact h
  have hl1 : (u64s vs).length = m := by rw [u64s_len, hvl]
  have hl2 : (u64s ss).length = m := by rw [u64s_len, hsl]
  have hA' : Sl w 1 (.slice (subA A c 0 1) (m - 0) (c - 0)) m (u64s vs) := by
    have := Sl.sub hA (Nat.zero_le m) (Nat.le_refl m)
    rwa [Nat.zero_mul, List.drop_zero, Nat.mul_one, Nat.sub_zero, List.take_of_length_le (by omega)] at this
  have hB' : Sl w 1 (.slice (subA B d 0 1) (m - 0) (d - 0)) m (u64s ss) := by
    have := Sl.sub hB (Nat.zero_le m) (Nat.le_refl m)
    rwa [Nat.zero_mul, List.drop_zero, Nat.mul_one, Nat.sub_zero, List.take_of_length_le (by omega)] at this
  have hc1 := fun w' hb => clone64_n w' (hA'.below (w' := w') hb) (by omega) (by omega)
  have hc2 := fun w' hb => clone64_n w' (hB'.below (w' := w') hb) (by omega) (by omega)
  have gd : ∀ j u, dt.cells[j]? = some u → (iv g :: iv i :: u64 v :: dt.cells)[0 + (3 + j)]? = some u := fun j u h => by
    rw [Nat.zero_add, Nat.add_comm 3 j]; exact h
  have hsv : ∀ k, k = i * 1 → (u64s vs).set k (u64 v) = u64s (vs.set i v) := fun k hk => u64s_set hk
  have hss : ∀ k, k = i * 1 → (u64s ss).set k (u64 (sumN g i v dt)) = u64s (ss.set i (sumN g i v dt)) := fun k hk => u64s_set hk
  generalize sumN g i v dt = S0 at *
  refine calls_wcG (args := [lfV A c B d m, pwV g i v dt]) [.cell 4 34, .tmp 5] [] Tryz.func9 rfl Tryz.ntmps9 rfl rfl (H.refl _) ?_
  refine WC.seq fun K hK => ?_
  refine WC.region rfl ?_
  refine WL.want rfl (WL1.box rfl rfl (.mk (v := .agg _) rfl rfl) rfl (fun b2 => ?_))
  refine WL.want rfl (WL1.box rfl rfl (.mk (v := .agg _) rfl rfl) rfl (fun b3 => ?_))
  refine WL.want rfl (WL1.alloc rfl rfl rfl rfl (fun b4 => ?_))
  refine wAI rfl rfl rfl rfl rfl ?_
  refine WL.nil (hK _ _ ?_); clear hK
  refine WC.seq fun K hK => ?_
  refine WC.region rfl ?_
  refine wG rfl rfl (g_loadA rfl (.mk rfl rfl) rfl rfl (rdr_pt (.tail _ (.tail _ (.head _))) (fun j u h => by simpa using h))) ?_
  refine WL.want rfl (WL1.callP rfl rfl rfl (.cons (.mk (v := .agg _) rfl rfl) .nil) (fun w hw => ppieces_e A B c d m w) ?_)
  refine wAI rfl rfl rfl rfl rfl ?_
  refine WL.nil (hK _ _ ?_); clear hK
  refine WC.seq fun K hK => ?_
  refine WC.seq fun K hK => ?_
  refine WC.region rfl ?_
  refine wG rfl rfl (g_fieldAddr (off := 1) rfl (.mk rfl rfl) rfl (fun _ _ => rfl)) ?_
  refine wG rfl rfl (g_load rfl (.mk rfl rfl) rfl (rd_pt (.tail _ (.head _)) rfl)) ?_
  refine wG rfl rfl (g_lt rfl (.mk rfl rfl) (.mk rfl rfl) (decide_eq_false (by omega))) ?_
  refine wMB rfl rfl rfl rfl rfl ?_
  refine WL.wantG rfl rfl rfl rfl (WL1.give rfl (g_fieldAddr (off := 1) rfl (.mk rfl rfl) rfl (fun _ _ => rfl)) ?_)
  refine WL.wantG rfl rfl rfl rfl (WL1.give rfl (g_load rfl (.mk rfl rfl) rfl (rd_pt (.tail _ (.head _)) rfl)) ?_)
  refine WL.wantG rfl rfl rfl rfl (WL1.give rfl (g_move rfl (.mk (v := .int _ _) rfl rfl)) ?_)
  refine WL.wantG rfl rfl rfl rfl (WL1.give rfl (g_ge rfl (.mk rfl rfl) (.mk rfl rfl) (decide_eq_false (by omega))) ?_)
  refine wG rfl rfl (g_pickF rfl (.mk rfl rfl) (.mk (v := .bool _) rfl rfl)) ?_
  refine WL.nil (hK _ _ ?_); clear hK
  refine WC.cond_false (.mk rfl rfl) ?_
  refine WC.skip ?_
  (refine hK _ _ ?_; clear hK)
  refine WC.seq fun K hK => ?_
  refine WC.untilL [12] rfl (by kernel_rfl) ?_
  refine WB.takeP 0 rfl (by decide +kernel) (by decide +kernel) (by decide +kernel) (by decide +kernel) rfl rfl (.inr (Imp.sub (by first | ((repeat (first | exact List.nil_sublist _ | exact List.Sublist.refl _ | apply List.Sublist.cons_cons | apply List.Sublist.cons)); done) | fail))) (g_fieldAddr (off := 0) rfl (.mk rfl rfl) rfl (fun _ _ => rfl)) ?_
  refine WB.take 1 rfl (by decide +kernel) (by decide +kernel) (by decide +kernel) (by decide +kernel) rfl rfl (Imp.sub (by first | ((repeat (first | exact List.nil_sublist _ | exact List.Sublist.refl _ | apply List.Sublist.cons_cons | apply List.Sublist.cons)); done) | fail)) (g_load rfl (.mk rfl rfl) rfl (rd_pt (.tail _ (.tail _ (.head _))) rfl)) ?_
  refine WB.takeP 2 rfl (by decide +kernel) (by decide +kernel) (by decide +kernel) (by decide +kernel) rfl rfl (.inr (Imp.sub (by first | ((repeat (first | exact List.nil_sublist _ | exact List.Sublist.refl _ | apply List.Sublist.cons_cons | apply List.Sublist.cons)); done) | fail))) (g_move rfl (.mk (v := .int _ _) rfl rfl)) ?_
  refine WB.takeP 3 rfl (by decide +kernel) (by decide +kernel) (by decide +kernel) (by decide +kernel) rfl rfl (.inr (Imp.sub (by first | ((repeat (first | exact List.nil_sublist _ | exact List.Sublist.refl _ | apply List.Sublist.cons_cons | apply List.Sublist.cons)); done) | fail))) (g_slice (sz := 1) (kl := .i64) (p := 0) rfl (.mk rfl rfl) rfl rfl rfl ⟨(.mk rfl rfl), rfl⟩ (by omega) (by omega)) ?_
  refine WB.takeP 5 rfl (by decide +kernel) (by decide +kernel) (by decide +kernel) (by decide +kernel) rfl rfl (.inr (Imp.sub (by first | ((repeat (first | exact List.nil_sublist _ | exact List.Sublist.refl _ | apply List.Sublist.cons_cons | apply List.Sublist.cons)); done) | fail))) (g_fieldAddr (off := 1) rfl (.mk rfl rfl) rfl (fun _ _ => rfl)) ?_
  refine WB.take 6 rfl (by decide +kernel) (by decide +kernel) (by decide +kernel) (by decide +kernel) rfl rfl (Imp.sub (by first | ((repeat (first | exact List.nil_sublist _ | exact List.Sublist.refl _ | apply List.Sublist.cons_cons | apply List.Sublist.cons)); done) | fail)) (g_load rfl (.mk rfl rfl) rfl (rd_pt (.tail _ (.tail _ (.head _))) rfl)) ?_
  refine WB.takeP 7 rfl (by decide +kernel) (by decide +kernel) (by decide +kernel) (by decide +kernel) rfl rfl (.inr (Imp.sub (by first | ((repeat (first | exact List.nil_sublist _ | exact List.Sublist.refl _ | apply List.Sublist.cons_cons | apply List.Sublist.cons)); done) | fail))) (g_move rfl (.mk (v := .int _ _) rfl rfl)) ?_
  refine WB.takeP 8 rfl (by decide +kernel) (by decide +kernel) (by decide +kernel) (by decide +kernel) rfl rfl (.inr (Imp.sub (by first | ((repeat (first | exact List.nil_sublist _ | exact List.Sublist.refl _ | apply List.Sublist.cons_cons | apply List.Sublist.cons)); done) | fail))) (g_slice (sz := 1) (kl := .i64) (p := 0) rfl (.mk rfl rfl) rfl rfl rfl ⟨(.mk rfl rfl), rfl⟩ (by omega) (by omega)) ?_
  refine WB.two 4 11 (by decide +kernel) rfl rfl rfl rfl ?_ ?_
  (refine WL1.callN rfl rfl rfl (.cons (.mk (v := .slice _ _ _) rfl rfl) .nil) (fun w hw => hc1 w hw.1) ?_; rintro _ _ ⟨R1, r1, rfl, rfl⟩)
  refine WL.nil ?_
  refine ⟨.inr (Imp.sub (by first | ((repeat (first | exact List.nil_sublist _ | exact List.Sublist.refl _ | apply List.Sublist.cons_cons | apply List.Sublist.cons)); done) | fail)), ?_⟩
  refine WB.two 9 11 (by decide +kernel) rfl rfl rfl rfl ?_ ?_
  (refine WL1.callN rfl rfl rfl (.cons (.mk (v := .slice _ _ _) rfl rfl) .nil) (fun w hw => hc2 w hw.1) ?_; rintro _ _ ⟨R2, r2, rfl, rfl⟩)
  refine WL.nil ?_
  refine ⟨.inr (Imp.sub (by first | ((repeat (first | exact List.nil_sublist _ | exact List.Sublist.refl _ | apply List.Sublist.cons_cons | apply List.Sublist.cons)); done) | fail)), ?_⟩
  refine WB.takeP 10 rfl (by decide +kernel) (by decide +kernel) (by decide +kernel) (by decide +kernel) rfl rfl (.inr (Imp.sub (by first | ((repeat (first | exact List.nil_sublist _ | exact List.Sublist.refl _ | apply List.Sublist.cons_cons | apply List.Sublist.cons)); done) | fail))) (g_build (cs := [_, _]) rfl rfl rfl rfl (.cons (.mk (v := .slice _ _ _) rfl rfl) (.cons (.mk (v := .slice _ _ _) rfl rfl) .nil)) rfl rfl rfl) ?_
  refine WB.one 11 (by decide +kernel) rfl rfl ?_
  refine WL1.alloc rfl rfl rfl rfl (fun b7 => ?_)
  refine WL.nil ?_
  refine ⟨.inr (Imp.sub (by first | ((repeat (first | exact List.nil_sublist _ | exact List.Sublist.refl _ | apply List.Sublist.cons_cons | apply List.Sublist.cons)); done) | fail)), ?_⟩
  refine WB.one 12 (by decide +kernel) rfl rfl ?_
  refine WL1.storeAll rfl rfl (.mk rfl rfl) (.mk rfl rfl) rfl (all1 rfl) (by first | rfl | (simp [Blk.len]; done)) (.head) ?_
  refine WL.nil ?_
  refine ⟨.inl (by decide +kernel), ?_⟩
  refine WB.done (by decide +kernel) ?_
  (refine hK _ _ ?_; clear hK)
  refine WC.seq fun K hK => ?_
  refine WC.held [pt b7 LFT [.slice R1 m r1, .slice R2 m r2], pt b3 43 (iv g :: iv i :: u64 v :: dt.cells)] rfl (by kernel_rfl) ?_
  refine WH.take 0 rfl (by decide +kernel) (by decide +kernel) (by decide +kernel) rfl rfl (Imp.sub (by first | ((repeat (first | exact List.nil_sublist _ | exact List.Sublist.refl _ | apply List.Sublist.cons_cons | apply List.Sublist.cons)); done) | fail)) (g_fieldAddr (off := 0) rfl (.mk rfl rfl) rfl (fun _ _ => rfl)) ?_
  refine WH.take 1 rfl (by decide +kernel) (by decide +kernel) (by decide +kernel) rfl rfl (Imp.sub (by first | ((repeat (first | exact List.nil_sublist _ | exact List.Sublist.refl _ | apply List.Sublist.cons_cons | apply List.Sublist.cons)); done) | fail)) (g_load rfl (.mk rfl rfl) rfl (rd_pt (.head _) rfl)) ?_
  refine WH.take 2 rfl (by decide +kernel) (by decide +kernel) (by decide +kernel) rfl rfl (Imp.sub (by first | ((repeat (first | exact List.nil_sublist _ | exact List.Sublist.refl _ | apply List.Sublist.cons_cons | apply List.Sublist.cons)); done) | fail)) (g_fieldAddr (off := 1) rfl (.mk rfl rfl) rfl (fun _ _ => rfl)) ?_
  refine WH.take 3 rfl (by decide +kernel) (by decide +kernel) (by decide +kernel) rfl rfl (Imp.sub (by first | ((repeat (first | exact List.nil_sublist _ | exact List.Sublist.refl _ | apply List.Sublist.cons_cons | apply List.Sublist.cons)); done) | fail)) (g_load rfl (.mk rfl rfl) rfl (rd_pt (.tail _ (.head _)) rfl)) ?_
  refine WH.take 4 rfl (by decide +kernel) (by decide +kernel) (by decide +kernel) rfl rfl (Imp.sub (by first | ((repeat (first | exact List.nil_sublist _ | exact List.Sublist.refl _ | apply List.Sublist.cons_cons | apply List.Sublist.cons)); done) | fail)) (g_fieldAddr (off := 1) rfl (.mk rfl rfl) rfl (fun _ _ => rfl)) ?_
  refine WH.take 5 rfl (by decide +kernel) (by decide +kernel) (by decide +kernel) rfl rfl (Imp.sub (by first | ((repeat (first | exact List.nil_sublist _ | exact List.Sublist.refl _ | apply List.Sublist.cons_cons | apply List.Sublist.cons)); done) | fail)) (g_load rfl (.mk rfl rfl) rfl (rd_pt (.head _) rfl)) ?_
  refine WH.take 6 rfl (by decide +kernel) (by decide +kernel) (by decide +kernel) rfl rfl (Imp.sub (by first | ((repeat (first | exact List.nil_sublist _ | exact List.Sublist.refl _ | apply List.Sublist.cons_cons | apply List.Sublist.cons)); done) | fail)) (g_fieldAddr (off := 1) rfl (.mk rfl rfl) rfl (fun _ _ => rfl)) ?_
  refine WH.take 7 rfl (by decide +kernel) (by decide +kernel) (by decide +kernel) rfl rfl (Imp.sub (by first | ((repeat (first | exact List.nil_sublist _ | exact List.Sublist.refl _ | apply List.Sublist.cons_cons | apply List.Sublist.cons)); done) | fail)) (g_load rfl (.mk rfl rfl) rfl (rd_pt (.tail _ (.head _)) rfl)) ?_
  refine WH.take 8 rfl (by decide +kernel) (by decide +kernel) (by decide +kernel) rfl rfl (Imp.sub (by first | ((repeat (first | exact List.nil_sublist _ | exact List.Sublist.refl _ | apply List.Sublist.cons_cons | apply List.Sublist.cons)); done) | fail)) (g_fieldAddr (off := 2) rfl (.mk rfl rfl) rfl (fun _ _ => rfl)) ?_
  refine WH.take 9 rfl (by decide +kernel) (by decide +kernel) (by decide +kernel) rfl rfl (Imp.sub (by first | ((repeat (first | exact List.nil_sublist _ | exact List.Sublist.refl _ | apply List.Sublist.cons_cons | apply List.Sublist.cons)); done) | fail)) (g_load rfl (.mk rfl rfl) rfl (rd_pt (.tail _ (.head _)) rfl)) ?_
  refine WH.take 10 rfl (by decide +kernel) (by decide +kernel) (by decide +kernel) rfl rfl (Imp.sub (by first | ((repeat (first | exact List.nil_sublist _ | exact List.Sublist.refl _ | apply List.Sublist.cons_cons | apply List.Sublist.cons)); done) | fail)) (g_fieldAddr (off := 0) rfl (.mk rfl rfl) rfl (fun _ _ => rfl)) ?_
  refine WH.take 11 rfl (by decide +kernel) (by decide +kernel) (by decide +kernel) rfl rfl (Imp.sub (by first | ((repeat (first | exact List.nil_sublist _ | exact List.Sublist.refl _ | apply List.Sublist.cons_cons | apply List.Sublist.cons)); done) | fail)) (g_load rfl (.mk rfl rfl) rfl (rd_pt (.tail _ (.head _)) rfl)) ?_
  refine WH.take 12 rfl (by decide +kernel) (by decide +kernel) (by decide +kernel) rfl rfl (Imp.sub (by first | ((repeat (first | exact List.nil_sublist _ | exact List.Sublist.refl _ | apply List.Sublist.cons_cons | apply List.Sublist.cons)); done) | fail)) (g_fieldAddr (off := 1) rfl (.mk rfl rfl) rfl (fun _ _ => rfl)) ?_
  refine WH.take 13 rfl (by decide +kernel) (by decide +kernel) (by decide +kernel) rfl rfl (Imp.sub (by first | ((repeat (first | exact List.nil_sublist _ | exact List.Sublist.refl _ | apply List.Sublist.cons_cons | apply List.Sublist.cons)); done) | fail)) (g_load rfl (.mk rfl rfl) rfl (rd_pt (.tail _ (.head _)) rfl)) ?_
  refine WH.take 14 rfl (by decide +kernel) (by decide +kernel) (by decide +kernel) rfl rfl (Imp.sub (by first | ((repeat (first | exact List.nil_sublist _ | exact List.Sublist.refl _ | apply List.Sublist.cons_cons | apply List.Sublist.cons)); done) | fail)) (g_fieldAddr (off := 2) rfl (.mk rfl rfl) rfl (fun _ _ => rfl)) ?_
  refine WH.take 15 rfl (by decide +kernel) (by decide +kernel) (by decide +kernel) rfl rfl (Imp.sub (by first | ((repeat (first | exact List.nil_sublist _ | exact List.Sublist.refl _ | apply List.Sublist.cons_cons | apply List.Sublist.cons)); done) | fail)) (g_load rfl (.mk rfl rfl) rfl (rd_pt (.tail _ (.head _)) rfl)) ?_
  refine WH.take 16 rfl (by decide +kernel) (by decide +kernel) (by decide +kernel) rfl rfl (Imp.sub (by first | ((repeat (first | exact List.nil_sublist _ | exact List.Sublist.refl _ | apply List.Sublist.cons_cons | apply List.Sublist.cons)); done) | fail)) (g_fieldAddr (off := 3) rfl (.mk rfl rfl) rfl (fun _ _ => rfl)) ?_
  refine WH.take 17 rfl (by decide +kernel) (by decide +kernel) (by decide +kernel) rfl rfl (Imp.sub (by first | ((repeat (first | exact List.nil_sublist _ | exact List.Sublist.refl _ | apply List.Sublist.cons_cons | apply List.Sublist.cons)); done) | fail)) (g_loadA rfl (.mk rfl rfl) rfl (sz8 _) (rdr_pt (cs := dt.cells) (by first | ((repeat (first | exact .head _ | apply List.Mem.tail)); done) | fail) gd)) ?_
  refine WH.one 18 (by decide +kernel) rfl rfl ?_
  refine WL1.callP rfl rfl rfl (.cons (.mk (v := .int _ _) rfl rfl) (.cons (.mk (v := .int _ _) rfl rfl) (.cons (.mk (v := .int _ _) rfl rfl) (.cons (.mk (v := .agg _) rfl rfl) .nil)))) (fun w hw => hps w) ?_
  refine WL.nil ?_
  refine ⟨(Imp.sub (by first | ((repeat (first | exact List.nil_sublist _ | exact List.Sublist.refl _ | apply List.Sublist.cons_cons | apply List.Sublist.cons)); done) | fail)), ?_⟩
  refine WH.one 19 (by decide +kernel) rfl rfl ?_
  refine WL1.give rfl (g_indexAddr (sz := 1) rfl (.mk rfl rfl) (.mk rfl rfl) rfl rfl rfl (by omega) (fun w hw => vec_some hw (.tail _ (.tail _ (.head _))) (by omega))) ?_
  refine WL.nil ?_
  refine ⟨(Imp.sub (by first | ((repeat (first | exact List.nil_sublist _ | exact List.Sublist.refl _ | apply List.Sublist.cons_cons | apply List.Sublist.cons)); done) | fail)), ?_⟩
  refine WH.one 20 (by decide +kernel) rfl rfl ?_
  refine WL1.storeV1 rfl rfl (.mk rfl rfl) (.mk (v := .int _ _) rfl rfl) rfl rfl (by first | omega | (simp; done) | (simp; omega)) (.tail (.tail (.head))) ?_
  refine WL.nil ?_
  refine ⟨(Imp.sub (by first | ((repeat (first | exact List.nil_sublist _ | exact List.Sublist.refl _ | apply List.Sublist.cons_cons | apply List.Sublist.cons)); done) | fail)), ?_⟩
  refine WH.one 21 (by decide +kernel) rfl rfl ?_
  refine WL1.give rfl (g_indexAddr (sz := 1) rfl (.mk rfl rfl) (.mk rfl rfl) rfl rfl rfl (by omega) (fun w hw => vec_some hw (.tail _ (.head _)) (by omega))) ?_
  refine WL.nil ?_
  refine ⟨(Imp.sub (by first | ((repeat (first | exact List.nil_sublist _ | exact List.Sublist.refl _ | apply List.Sublist.cons_cons | apply List.Sublist.cons)); done) | fail)), ?_⟩
  refine WH.one 22 (by decide +kernel) rfl rfl ?_
  refine WL1.storeV1 rfl rfl (.mk rfl rfl) (.mk (v := .int _ _) rfl rfl) rfl rfl (by first | omega | (simp; done) | (simp; omega)) (.tail (.head)) ?_
  refine WL.nil ?_
  refine ⟨(Imp.sub (by first | ((repeat (first | exact List.nil_sublist _ | exact List.Sublist.refl _ | apply List.Sublist.cons_cons | apply List.Sublist.cons)); done) | fail)), ?_⟩
  refine WH.done (by decide +kernel) ?_
  (refine hK _ _ ?_; clear hK)
  refine WC.seq fun K hK => ?_
  refine WC.region rfl ?_
  refine wG rfl rfl (g_loadA rfl (.mk rfl rfl) rfl rfl (rdr_pt (.head _) (fun j u h => by simpa using h))) ?_
  refine WL.want rfl (WL1.storeAll rfl rfl (.mk rfl rfl) (.mk rfl rfl) rfl (all1 rfl) (by first | rfl | (simp [Blk.len]; done)) (.tail (.tail (.tail (.head)))) ?_)
  refine wAI rfl rfl rfl rfl rfl ?_
  refine WL.nil (hK _ _ ?_); clear hK
  refine WC.ret ?_
  rotate_left
  refine WL1.alloc rfl rfl rfl rfl (fun b7 => ?_)
  refine WL.nil ?_
  refine ⟨.inr (Imp.sub (by first | ((repeat (first | exact List.nil_sublist _ | exact List.Sublist.refl _ | apply List.Sublist.cons_cons | apply List.Sublist.cons)); done) | fail)), ?_⟩
  refine WB.one 9 (by decide +kernel) rfl rfl ?_
  (refine WL1.callN rfl rfl rfl (.cons (.mk (v := .slice _ _ _) rfl rfl) .nil) (fun w hw => hc2 w hw.1) ?_; rintro _ _ ⟨R2, r2, rfl, rfl⟩)
  refine WL.nil ?_
  refine ⟨.inr (Imp.sub (by first | ((repeat (first | exact List.nil_sublist _ | exact List.Sublist.refl _ | apply List.Sublist.cons_cons | apply List.Sublist.cons)); done) | fail)), ?_⟩
  refine WB.takeP 10 rfl (by decide +kernel) (by decide +kernel) (by decide +kernel) (by decide +kernel) rfl rfl (.inr (Imp.sub (by first | ((repeat (first | exact List.nil_sublist _ | exact List.Sublist.refl _ | apply List.Sublist.cons_cons | apply List.Sublist.cons)); done) | fail))) (g_build (cs := [_, _]) rfl rfl rfl rfl (.cons (.mk (v := .slice _ _ _) rfl rfl) (.cons (.mk (v := .slice _ _ _) rfl rfl) .nil)) rfl rfl rfl) ?_
  refine WB.one 12 (by decide +kernel) rfl rfl ?_
  refine WL1.storeAll rfl rfl (.mk rfl rfl) (.mk rfl rfl) rfl (all1 rfl) (by first | rfl | (simp [Blk.len]; done)) (.tail (.head)) ?_
  refine WL.nil ?_
  refine ⟨.inl (by decide +kernel), ?_⟩
  refine WB.done (by decide +kernel) ?_
  (refine hK _ _ ?_; clear hK)
  refine WC.seq fun K hK => ?_
  refine WC.held [pt b7 LFT [.slice R1 m r1, .slice R2 m r2], pt b3 43 (iv g :: iv i :: u64 v :: dt.cells)] rfl (by kernel_rfl) ?_
  refine WH.take 0 rfl (by decide +kernel) (by decide +kernel) (by decide +kernel) rfl rfl (Imp.sub (by first | ((repeat (first | exact List.nil_sublist _ | exact List.Sublist.refl _ | apply List.Sublist.cons_cons | apply List.Sublist.cons)); done) | fail)) (g_fieldAddr (off := 0) rfl (.mk rfl rfl) rfl (fun _ _ => rfl)) ?_
  refine WH.take 1 rfl (by decide +kernel) (by decide +kernel) (by decide +kernel) rfl rfl (Imp.sub (by first | ((repeat (first | exact List.nil_sublist _ | exact List.Sublist.refl _ | apply List.Sublist.cons_cons | apply List.Sublist.cons)); done) | fail)) (g_load rfl (.mk rfl rfl) rfl (rd_pt (.head _) rfl)) ?_
  refine WH.take 2 rfl (by decide +kernel) (by decide +kernel) (by decide +kernel) rfl rfl (Imp.sub (by first | ((repeat (first | exact List.nil_sublist _ | exact List.Sublist.refl _ | apply List.Sublist.cons_cons | apply List.Sublist.cons)); done) | fail)) (g_fieldAddr (off := 1) rfl (.mk rfl rfl) rfl (fun _ _ => rfl)) ?_
  refine WH.take 3 rfl (by decide +kernel) (by decide +kernel) (by decide +kernel) rfl rfl (Imp.sub (by first | ((repeat (first | exact List.nil_sublist _ | exact List.Sublist.refl _ | apply List.Sublist.cons_cons | apply List.Sublist.cons)); done) | fail)) (g_load rfl (.mk rfl rfl) rfl (rd_pt (.tail _ (.head _)) rfl)) ?_
  refine WH.take 4 rfl (by decide +kernel) (by decide +kernel) (by decide +kernel) rfl rfl (Imp.sub (by first | ((repeat (first | exact List.nil_sublist _ | exact List.Sublist.refl _ | apply List.Sublist.cons_cons | apply List.Sublist.cons)); done) | fail)) (g_fieldAddr (off := 1) rfl (.mk rfl rfl) rfl (fun _ _ => rfl)) ?_
  refine WH.take 5 rfl (by decide +kernel) (by decide +kernel) (by decide +kernel) rfl rfl (Imp.sub (by first | ((repeat (first | exact List.nil_sublist _ | exact List.Sublist.refl _ | apply List.Sublist.cons_cons | apply List.Sublist.cons)); done) | fail)) (g_load rfl (.mk rfl rfl) rfl (rd_pt (.head _) rfl)) ?_
  refine WH.take 6 rfl (by decide +kernel) (by decide +kernel) (by decide +kernel) rfl rfl (Imp.sub (by first | ((repeat (first | exact List.nil_sublist _ | exact List.Sublist.refl _ | apply List.Sublist.cons_cons | apply List.Sublist.cons)); done) | fail)) (g_fieldAddr (off := 1) rfl (.mk rfl rfl) rfl (fun _ _ => rfl)) ?_
  refine WH.take 7 rfl (by decide +kernel) (by decide +kernel) (by decide +kernel) rfl rfl (Imp.sub (by first | ((repeat (first | exact List.nil_sublist _ | exact List.Sublist.refl _ | apply List.Sublist.cons_cons | apply List.Sublist.cons)); done) | fail)) (g_load rfl (.mk rfl rfl) rfl (rd_pt (.tail _ (.head _)) rfl)) ?_
  refine WH.take 8 rfl (by decide +kernel) (by decide +kernel) (by decide +kernel) rfl rfl (Imp.sub (by first | ((repeat (first | exact List.nil_sublist _ | exact List.Sublist.refl _ | apply List.Sublist.cons_cons | apply List.Sublist.cons)); done) | fail)) (g_fieldAddr (off := 2) rfl (.mk rfl rfl) rfl (fun _ _ => rfl)) ?_
  refine WH.take 9 rfl (by decide +kernel) (by decide +kernel) (by decide +kernel) rfl rfl (Imp.sub (by first | ((repeat (first | exact List.nil_sublist _ | exact List.Sublist.refl _ | apply List.Sublist.cons_cons | apply List.Sublist.cons)); done) | fail)) (g_load rfl (.mk rfl rfl) rfl (rd_pt (.tail _ (.head _)) rfl)) ?_
  refine WH.take 10 rfl (by decide +kernel) (by decide +kernel) (by decide +kernel) rfl rfl (Imp.sub (by first | ((repeat (first | exact List.nil_sublist _ | exact List.Sublist.refl _ | apply List.Sublist.cons_cons | apply List.Sublist.cons)); done) | fail)) (g_fieldAddr (off := 0) rfl (.mk rfl rfl) rfl (fun _ _ => rfl)) ?_
  refine WH.take 11 rfl (by decide +kernel) (by decide +kernel) (by decide +kernel) rfl rfl (Imp.sub (by first | ((repeat (first | exact List.nil_sublist _ | exact List.Sublist.refl _ | apply List.Sublist.cons_cons | apply List.Sublist.cons)); done) | fail)) (g_load rfl (.mk rfl rfl) rfl (rd_pt (.tail _ (.head _)) rfl)) ?_
  refine WH.take 12 rfl (by decide +kernel) (by decide +kernel) (by decide +kernel) rfl rfl (Imp.sub (by first | ((repeat (first | exact List.nil_sublist _ | exact List.Sublist.refl _ | apply List.Sublist.cons_cons | apply List.Sublist.cons)); done) | fail)) (g_fieldAddr (off := 1) rfl (.mk rfl rfl) rfl (fun _ _ => rfl)) ?_
  refine WH.take 13 rfl (by decide +kernel) (by decide +kernel) (by decide +kernel) rfl rfl (Imp.sub (by first | ((repeat (first | exact List.nil_sublist _ | exact List.Sublist.refl _ | apply List.Sublist.cons_cons | apply List.Sublist.cons)); done) | fail)) (g_load rfl (.mk rfl rfl) rfl (rd_pt (.tail _ (.head _)) rfl)) ?_
  refine WH.take 14 rfl (by decide +kernel) (by decide +kernel) (by decide +kernel) rfl rfl (Imp.sub (by first | ((repeat (first | exact List.nil_sublist _ | exact List.Sublist.refl _ | apply List.Sublist.cons_cons | apply List.Sublist.cons)); done) | fail)) (g_fieldAddr (off := 2) rfl (.mk rfl rfl) rfl (fun _ _ => rfl)) ?_
  refine WH.take 15 rfl (by decide +kernel) (by decide +kernel) (by decide +kernel) rfl rfl (Imp.sub (by first | ((repeat (first | exact List.nil_sublist _ | exact List.Sublist.refl _ | apply List.Sublist.cons_cons | apply List.Sublist.cons)); done) | fail)) (g_load rfl (.mk rfl rfl) rfl (rd_pt (.tail _ (.head _)) rfl)) ?_
  refine WH.take 16 rfl (by decide +kernel) (by decide +kernel) (by decide +kernel) rfl rfl (Imp.sub (by first | ((repeat (first | exact List.nil_sublist _ | exact List.Sublist.refl _ | apply List.Sublist.cons_cons | apply List.Sublist.cons)); done) | fail)) (g_fieldAddr (off := 3) rfl (.mk rfl rfl) rfl (fun _ _ => rfl)) ?_
  refine WH.take 17 rfl (by decide +kernel) (by decide +kernel) (by decide +kernel) rfl rfl (Imp.sub (by first | ((repeat (first | exact List.nil_sublist _ | exact List.Sublist.refl _ | apply List.Sublist.cons_cons | apply List.Sublist.cons)); done) | fail)) (g_loadA rfl (.mk rfl rfl) rfl (sz8 _) (rdr_pt (cs := dt.cells) (by first | ((repeat (first | exact .head _ | apply List.Mem.tail)); done) | fail) gd)) ?_
  refine WH.one 18 (by decide +kernel) rfl rfl ?_
  refine WL1.callP rfl rfl rfl (.cons (.mk (v := .int _ _) rfl rfl) (.cons (.mk (v := .int _ _) rfl rfl) (.cons (.mk (v := .int _ _) rfl rfl) (.cons (.mk (v := .agg _) rfl rfl) .nil)))) (fun w hw => hps w) ?_
  refine WL.nil ?_
  refine ⟨(Imp.sub (by first | ((repeat (first | exact List.nil_sublist _ | exact List.Sublist.refl _ | apply List.Sublist.cons_cons | apply List.Sublist.cons)); done) | fail)), ?_⟩
  refine WH.one 19 (by decide +kernel) rfl rfl ?_
  refine WL1.give rfl (g_indexAddr (sz := 1) rfl (.mk rfl rfl) (.mk rfl rfl) rfl rfl rfl (by omega) (fun w hw => vec_some hw (.tail _ (.tail _ (.head _))) (by omega))) ?_
  refine WL.nil ?_
  refine ⟨(Imp.sub (by first | ((repeat (first | exact List.nil_sublist _ | exact List.Sublist.refl _ | apply List.Sublist.cons_cons | apply List.Sublist.cons)); done) | fail)), ?_⟩
  refine WH.one 20 (by decide +kernel) rfl rfl ?_
  refine WL1.storeV1 rfl rfl (.mk rfl rfl) (.mk (v := .int _ _) rfl rfl) rfl rfl (by first | omega | (simp; done) | (simp; omega)) (.tail (.tail (.head))) ?_
  refine WL.nil ?_
  refine ⟨(Imp.sub (by first | ((repeat (first | exact List.nil_sublist _ | exact List.Sublist.refl _ | apply List.Sublist.cons_cons | apply List.Sublist.cons)); done) | fail)), ?_⟩
  refine WH.one 21 (by decide +kernel) rfl rfl ?_
  refine WL1.give rfl (g_indexAddr (sz := 1) rfl (.mk rfl rfl) (.mk rfl rfl) rfl rfl rfl (by omega) (fun w hw => vec_some hw (.head _) (by omega))) ?_
  refine WL.nil ?_
  refine ⟨(Imp.sub (by first | ((repeat (first | exact List.nil_sublist _ | exact List.Sublist.refl _ | apply List.Sublist.cons_cons | apply List.Sublist.cons)); done) | fail)), ?_⟩
  refine WH.one 22 (by decide +kernel) rfl rfl ?_
  refine WL1.storeV1 rfl rfl (.mk rfl rfl) (.mk (v := .int _ _) rfl rfl) rfl rfl (by first | omega | (simp; done) | (simp; omega)) (.head) ?_
  refine WL.nil ?_
  refine ⟨(Imp.sub (by first | ((repeat (first | exact List.nil_sublist _ | exact List.Sublist.refl _ | apply List.Sublist.cons_cons | apply List.Sublist.cons)); done) | fail)), ?_⟩
  refine WH.done (by decide +kernel) ?_
  (refine hK _ _ ?_; clear hK)
  refine WC.seq fun K hK => ?_
  refine WC.region rfl ?_
  refine wG rfl rfl (g_loadA rfl (.mk rfl rfl) rfl rfl (rdr_pt (.tail _ (.head _)) (fun j u h => by simpa using h))) ?_
  refine WL.want rfl (WL1.storeAll rfl rfl (.mk rfl rfl) (.mk rfl rfl) rfl (all1 rfl) (by first | rfl | (simp [Blk.len]; done)) (.tail (.tail (.tail (.head)))) ?_)
  refine wAI rfl rfl rfl rfl rfl ?_
  refine WL.nil (hK _ _ ?_); clear hK
  refine WC.ret ?_
  rotate_left
  refine WL1.alloc rfl rfl rfl rfl (fun b7 => ?_)
  refine WL.nil ?_
  refine ⟨.inr (Imp.sub (by first | ((repeat (first | exact List.nil_sublist _ | exact List.Sublist.refl _ | apply List.Sublist.cons_cons | apply List.Sublist.cons)); done) | fail)), ?_⟩
  refine WB.one 4 (by decide +kernel) rfl rfl ?_
  (refine WL1.callN rfl rfl rfl (.cons (.mk (v := .slice _ _ _) rfl rfl) .nil) (fun w hw => hc1 w hw.1) ?_; rintro _ _ ⟨R1, r1, rfl, rfl⟩)
  refine WL.nil ?_
  refine ⟨.inr (Imp.sub (by first | ((repeat (first | exact List.nil_sublist _ | exact List.Sublist.refl _ | apply List.Sublist.cons_cons | apply List.Sublist.cons)); done) | fail)), ?_⟩
  refine WB.one 9 (by decide +kernel) rfl rfl ?_
  (refine WL1.callN rfl rfl rfl (.cons (.mk (v := .slice _ _ _) rfl rfl) .nil) (fun w hw => hc2 w hw.1) ?_; rintro _ _ ⟨R2, r2, rfl, rfl⟩)
  refine WL.nil ?_
  refine ⟨.inr (Imp.sub (by first | ((repeat (first | exact List.nil_sublist _ | exact List.Sublist.refl _ | apply List.Sublist.cons_cons | apply List.Sublist.cons)); done) | fail)), ?_⟩
  refine WB.takeP 10 rfl (by decide +kernel) (by decide +kernel) (by decide +kernel) (by decide +kernel) rfl rfl (.inr (Imp.sub (by first | ((repeat (first | exact List.nil_sublist _ | exact List.Sublist.refl _ | apply List.Sublist.cons_cons | apply List.Sublist.cons)); done) | fail))) (g_build (cs := [_, _]) rfl rfl rfl rfl (.cons (.mk (v := .slice _ _ _) rfl rfl) (.cons (.mk (v := .slice _ _ _) rfl rfl) .nil)) rfl rfl rfl) ?_
  refine WB.one 12 (by decide +kernel) rfl rfl ?_
  refine WL1.storeAll rfl rfl (.mk rfl rfl) (.mk rfl rfl) rfl (all1 rfl) (by first | rfl | (simp [Blk.len]; done)) (.tail (.tail (.head))) ?_
  refine WL.nil ?_
  refine ⟨.inl (by decide +kernel), ?_⟩
  refine WB.done (by decide +kernel) ?_
  (refine hK _ _ ?_; clear hK)
  refine WC.seq fun K hK => ?_
  refine WC.held [pt b7 LFT [.slice R1 m r1, .slice R2 m r2], pt b3 43 (iv g :: iv i :: u64 v :: dt.cells)] rfl (by kernel_rfl) ?_
  refine WH.take 0 rfl (by decide +kernel) (by decide +kernel) (by decide +kernel) rfl rfl (Imp.sub (by first | ((repeat (first | exact List.nil_sublist _ | exact List.Sublist.refl _ | apply List.Sublist.cons_cons | apply List.Sublist.cons)); done) | fail)) (g_fieldAddr (off := 0) rfl (.mk rfl rfl) rfl (fun _ _ => rfl)) ?_
  refine WH.take 1 rfl (by decide +kernel) (by decide +kernel) (by decide +kernel) rfl rfl (Imp.sub (by first | ((repeat (first | exact List.nil_sublist _ | exact List.Sublist.refl _ | apply List.Sublist.cons_cons | apply List.Sublist.cons)); done) | fail)) (g_load rfl (.mk rfl rfl) rfl (rd_pt (.head _) rfl)) ?_
  refine WH.take 2 rfl (by decide +kernel) (by decide +kernel) (by decide +kernel) rfl rfl (Imp.sub (by first | ((repeat (first | exact List.nil_sublist _ | exact List.Sublist.refl _ | apply List.Sublist.cons_cons | apply List.Sublist.cons)); done) | fail)) (g_fieldAddr (off := 1) rfl (.mk rfl rfl) rfl (fun _ _ => rfl)) ?_
  refine WH.take 3 rfl (by decide +kernel) (by decide +kernel) (by decide +kernel) rfl rfl (Imp.sub (by first | ((repeat (first | exact List.nil_sublist _ | exact List.Sublist.refl _ | apply List.Sublist.cons_cons | apply List.Sublist.cons)); done) | fail)) (g_load rfl (.mk rfl rfl) rfl (rd_pt (.tail _ (.head _)) rfl)) ?_
  refine WH.take 4 rfl (by decide +kernel) (by decide +kernel) (by decide +kernel) rfl rfl (Imp.sub (by first | ((repeat (first | exact List.nil_sublist _ | exact List.Sublist.refl _ | apply List.Sublist.cons_cons | apply List.Sublist.cons)); done) | fail)) (g_fieldAddr (off := 1) rfl (.mk rfl rfl) rfl (fun _ _ => rfl)) ?_
  refine WH.take 5 rfl (by decide +kernel) (by decide +kernel) (by decide +kernel) rfl rfl (Imp.sub (by first | ((repeat (first | exact List.nil_sublist _ | exact List.Sublist.refl _ | apply List.Sublist.cons_cons | apply List.Sublist.cons)); done) | fail)) (g_load rfl (.mk rfl rfl) rfl (rd_pt (.head _) rfl)) ?_
  refine WH.take 6 rfl (by decide +kernel) (by decide +kernel) (by decide +kernel) rfl rfl (Imp.sub (by first | ((repeat (first | exact List.nil_sublist _ | exact List.Sublist.refl _ | apply List.Sublist.cons_cons | apply List.Sublist.cons)); done) | fail)) (g_fieldAddr (off := 1) rfl (.mk rfl rfl) rfl (fun _ _ => rfl)) ?_
  refine WH.take 7 rfl (by decide +kernel) (by decide +kernel) (by decide +kernel) rfl rfl (Imp.sub (by first | ((repeat (first | exact List.nil_sublist _ | exact List.Sublist.refl _ | apply List.Sublist.cons_cons | apply List.Sublist.cons)); done) | fail)) (g_load rfl (.mk rfl rfl) rfl (rd_pt (.tail _ (.head _)) rfl)) ?_
  refine WH.take 8 rfl (by decide +kernel) (by decide +kernel) (by decide +kernel) rfl rfl (Imp.sub (by first | ((repeat (first | exact List.nil_sublist _ | exact List.Sublist.refl _ | apply List.Sublist.cons_cons | apply List.Sublist.cons)); done) | fail)) (g_fieldAddr (off := 2) rfl (.mk rfl rfl) rfl (fun _ _ => rfl)) ?_
  refine WH.take 9 rfl (by decide +kernel) (by decide +kernel) (by decide +kernel) rfl rfl (Imp.sub (by first | ((repeat (first | exact List.nil_sublist _ | exact List.Sublist.refl _ | apply List.Sublist.cons_cons | apply List.Sublist.cons)); done) | fail)) (g_load rfl (.mk rfl rfl) rfl (rd_pt (.tail _ (.head _)) rfl)) ?_
  refine WH.take 10 rfl (by decide +kernel) (by decide +kernel) (by decide +kernel) rfl rfl (Imp.sub (by first | ((repeat (first | exact List.nil_sublist _ | exact List.Sublist.refl _ | apply List.Sublist.cons_cons | apply List.Sublist.cons)); done) | fail)) (g_fieldAddr (off := 0) rfl (.mk rfl rfl) rfl (fun _ _ => rfl)) ?_
  refine WH.take 11 rfl (by decide +kernel) (by decide +kernel) (by decide +kernel) rfl rfl (Imp.sub (by first | ((repeat (first | exact List.nil_sublist _ | exact List.Sublist.refl _ | apply List.Sublist.cons_cons | apply List.Sublist.cons)); done) | fail)) (g_load rfl (.mk rfl rfl) rfl (rd_pt (.tail _ (.head _)) rfl)) ?_
  refine WH.take 12 rfl (by decide +kernel) (by decide +kernel) (by decide +kernel) rfl rfl (Imp.sub (by first | ((repeat (first | exact List.nil_sublist _ | exact List.Sublist.refl _ | apply List.Sublist.cons_cons | apply List.Sublist.cons)); done) | fail)) (g_fieldAddr (off := 1) rfl (.mk rfl rfl) rfl (fun _ _ => rfl)) ?_
  refine WH.take 13 rfl (by decide +kernel) (by decide +kernel) (by decide +kernel) rfl rfl (Imp.sub (by first | ((repeat (first | exact List.nil_sublist _ | exact List.Sublist.refl _ | apply List.Sublist.cons_cons | apply List.Sublist.cons)); done) | fail)) (g_load rfl (.mk rfl rfl) rfl (rd_pt (.tail _ (.head _)) rfl)) ?_
  refine WH.take 14 rfl (by decide +kernel) (by decide +kernel) (by decide +kernel) rfl rfl (Imp.sub (by first | ((repeat (first | exact List.nil_sublist _ | exact List.Sublist.refl _ | apply List.Sublist.cons_cons | apply List.Sublist.cons)); done) | fail)) (g_fieldAddr (off := 2) rfl (.mk rfl rfl) rfl (fun _ _ => rfl)) ?_
  refine WH.take 15 rfl (by decide +kernel) (by decide +kernel) (by decide +kernel) rfl rfl (Imp.sub (by first | ((repeat (first | exact List.nil_sublist _ | exact List.Sublist.refl _ | apply List.Sublist.cons_cons | apply List.Sublist.cons)); done) | fail)) (g_load rfl (.mk rfl rfl) rfl (rd_pt (.tail _ (.head _)) rfl)) ?_
  refine WH.take 16 rfl (by decide +kernel) (by decide +kernel) (by decide +kernel) rfl rfl (Imp.sub (by first | ((repeat (first | exact List.nil_sublist _ | exact List.Sublist.refl _ | apply List.Sublist.cons_cons | apply List.Sublist.cons)); done) | fail)) (g_fieldAddr (off := 3) rfl (.mk rfl rfl) rfl (fun _ _ => rfl)) ?_
  refine WH.take 17 rfl (by decide +kernel) (by decide +kernel) (by decide +kernel) rfl rfl (Imp.sub (by first | ((repeat (first | exact List.nil_sublist _ | exact List.Sublist.refl _ | apply List.Sublist.cons_cons | apply List.Sublist.cons)); done) | fail)) (g_loadA rfl (.mk rfl rfl) rfl (sz8 _) (rdr_pt (cs := dt.cells) (by first | ((repeat (first | exact .head _ | apply List.Mem.tail)); done) | fail) gd)) ?_
  refine WH.one 18 (by decide +kernel) rfl rfl ?_
  refine WL1.callP rfl rfl rfl (.cons (.mk (v := .int _ _) rfl rfl) (.cons (.mk (v := .int _ _) rfl rfl) (.cons (.mk (v := .int _ _) rfl rfl) (.cons (.mk (v := .agg _) rfl rfl) .nil)))) (fun w hw => hps w) ?_
  refine WL.nil ?_
  refine ⟨(Imp.sub (by first | ((repeat (first | exact List.nil_sublist _ | exact List.Sublist.refl _ | apply List.Sublist.cons_cons | apply List.Sublist.cons)); done) | fail)), ?_⟩
  refine WH.one 19 (by decide +kernel) rfl rfl ?_
  refine WL1.give rfl (g_indexAddr (sz := 1) rfl (.mk rfl rfl) (.mk rfl rfl) rfl rfl rfl (by omega) (fun w hw => vec_some hw (.tail _ (.head _)) (by omega))) ?_
  refine WL.nil ?_
  refine ⟨(Imp.sub (by first | ((repeat (first | exact List.nil_sublist _ | exact List.Sublist.refl _ | apply List.Sublist.cons_cons | apply List.Sublist.cons)); done) | fail)), ?_⟩
  refine WH.one 20 (by decide +kernel) rfl rfl ?_
  refine WL1.storeV1 rfl rfl (.mk rfl rfl) (.mk (v := .int _ _) rfl rfl) rfl rfl (by first | omega | (simp; done) | (simp; omega)) (.tail (.head)) ?_
  refine WL.nil ?_
  refine ⟨(Imp.sub (by first | ((repeat (first | exact List.nil_sublist _ | exact List.Sublist.refl _ | apply List.Sublist.cons_cons | apply List.Sublist.cons)); done) | fail)), ?_⟩
  refine WH.one 21 (by decide +kernel) rfl rfl ?_
  refine WL1.give rfl (g_indexAddr (sz := 1) rfl (.mk rfl rfl) (.mk rfl rfl) rfl rfl rfl (by omega) (fun w hw => vec_some hw (.head _) (by omega))) ?_
  refine WL.nil ?_
  refine ⟨(Imp.sub (by first | ((repeat (first | exact List.nil_sublist _ | exact List.Sublist.refl _ | apply List.Sublist.cons_cons | apply List.Sublist.cons)); done) | fail)), ?_⟩
  refine WH.one 22 (by decide +kernel) rfl rfl ?_
  refine WL1.storeV1 rfl rfl (.mk rfl rfl) (.mk (v := .int _ _) rfl rfl) rfl rfl (by first | omega | (simp; done) | (simp; omega)) (.head) ?_
  refine WL.nil ?_
  refine ⟨(Imp.sub (by first | ((repeat (first | exact List.nil_sublist _ | exact List.Sublist.refl _ | apply List.Sublist.cons_cons | apply List.Sublist.cons)); done) | fail)), ?_⟩
  refine WH.done (by decide +kernel) ?_
  (refine hK _ _ ?_; clear hK)
  refine WC.seq fun K hK => ?_
  refine WC.region rfl ?_
  refine wG rfl rfl (g_loadA rfl (.mk rfl rfl) rfl rfl (rdr_pt (.tail _ (.tail _ (.head _))) (fun j u h => by simpa using h))) ?_
  refine WL.want rfl (WL1.storeAll rfl rfl (.mk rfl rfl) (.mk rfl rfl) rfl (all1 rfl) (by first | rfl | (simp [Blk.len]; done)) (.tail (.tail (.tail (.head)))) ?_)
  refine wAI rfl rfl rfl rfl rfl ?_
  refine WL.nil (hK _ _ ?_); clear hK
  refine WC.ret ?_
  rotate_left
  all_goals exact ⟨_, .cell rfl rfl rfl rfl (by first | ((repeat (first | exact .head _ | apply List.Mem.tail)); done) | fail) (.tmp rfl rfl .nil), fun w' hw' => ⟨_, [vec R1 m r1 UT 1 (u64s (vs.set i v)), vec R2 m r2 UT 1 (u64s (ss.set i S0))], rfl, by rw [← hsv _ rfl, ← hss _ rfl]; exact (Imp.pick (by repeat (first | exact .head | apply Take.tail)) (Imp.pick (by repeat (first | exact .head | apply Take.tail)) (Imp.nil _))).h hw', R1, r1, R2, r2, rfl, rfl⟩⟩
set_option maxHeartbeats 4000000 in
theorem pzero_n {m g : Nat} (w : World) (h1 : 1 ≤ m) (hm : m ≤ 16) (hg : g < 2 ^ 32) :
    Calls Tryz.prog 8 #[iv g, iv m] w fun e w' => ∃ u M, e = .returned u ∧ H w M w' ∧ ∃ R r S s, u = lfV R r S s m ∧ M = [vec R m r UT 1 (u64s (List.replicate m 0)), vec S m s UT 1 (u64s ((List.range m).map fun i => sumN g i 0 0))] := by
  refine calls_wcG (args := [iv g, iv m]) [.cell 4 34] [] Tryz.func8 rfl Tryz.ntmps8 rfl rfl (H.refl _) ?_
  refine WC.seq fun K hK => ?_
  refine WC.region rfl ?_
  refine WL.want rfl (WL1.alloc rfl rfl rfl rfl (fun b4 => ?_))
  refine WL.nil (hK _ _ ?_); clear hK
  refine WC.seq fun K hK => ?_
  refine WC.region rfl ?_
  refine WL.want rfl (WL1.alloc rfl rfl rfl rfl (fun b5 => ?_))
  refine WL.nil (hK _ _ ?_); clear hK
  refine WC.seq fun K hK => ?_
  refine WC.seq fun K hK => ?_
  refine WC.region rfl ?_
  refine wMI rfl rfl rfl rfl rfl ?_
  refine wG rfl rfl (g_lt rfl (.mk rfl rfl) (.mk rfl rfl) (decide_eq_false (by omega))) ?_
  refine wMB rfl rfl rfl rfl rfl ?_
  refine WL.wantG rfl rfl rfl rfl (WL1.give rfl (g_move rfl (.mk (v := .int _ _) rfl rfl)) ?_)
  refine WL.wantG rfl rfl rfl rfl (WL1.give rfl (g_gt rfl (.mk rfl rfl) (.mk rfl rfl) (decide_eq_false (by omega))) ?_)
  refine wG rfl rfl (g_pickF rfl (.mk rfl rfl) (.mk (v := .bool _) rfl rfl)) ?_
  refine WL.nil (hK _ _ ?_); clear hK
  refine WC.cond_false (.mk rfl rfl) ?_
  refine WC.skip ?_
  (refine hK _ _ ?_; clear hK)
  refine WC.seq fun K hK => ?_
  refine WC.seq fun K hK => ?_
  refine WC.region rfl ?_
  refine wMI rfl rfl rfl rfl rfl ?_
  refine wMI rfl rfl rfl rfl rfl ?_
  refine WL.nil (hK _ _ ?_); clear hK
  refine WC.block ?_
  refine WC.nilvec UT 1 ?_
  refine WC.nilvec UT 1 ?_
  refine WC.loopF5 (fun (i : Nat) (R : Option Addr) (r : Nat) (S : Option Addr) (s : Nat) => [(15, iv i), (14, iv m), (0, iv g), (4, cellPtr (some ⟨b4, 0, none⟩) 0), (5, cellPtr (some ⟨b5, 0, none⟩) 0)]) (fun i R r S s => [vec R i r UT 1 (u64s (List.replicate i 0)), vec S i s UT 1 (u64s ((List.range i).map fun i => sumN g i 0 0)), pt b5 LFT [.slice R i r, .slice S i s], pt b4 LFT [.slice none 0 0, .slice none 0 0]]) (fun i _ _ _ _ => i ≤ m) (fun i _ _ _ _ => m - i) 0 none 0 none 0 (by repeat (first | exact trivial | refine ⟨rfl, ?_⟩)) (Imp.pick (by repeat (first | exact .head | apply Take.tail)) (Imp.pick (by repeat (first | exact .head | apply Take.tail)) (Imp.pick (by repeat (first | exact .head | apply Take.tail)) (Imp.pick (by repeat (first | exact .head | apply Take.tail)) (Imp.nil _))))) (by omega) ?_
  intro i R r S s U hi
  by_cases hlt : i < m
  · have hps := fun w => psum_e g i 0 0 w hg (by omega)
    have e1 : u64s (List.replicate (i + 1) 0) = u64s (List.replicate i 0) ++ [.int .u64 0] := by rw [List.replicate_succ']; simp
    have e2 : u64s ((List.range (i + 1)).map fun i => sumN g i 0 0) = u64s ((List.range i).map fun i => sumN g i 0 0) ++ [u64 (sumN g i 0 0)] := by rw [List.range_succ]; simp
    refine WC.seq fun K hK => ?_
    refine WC.region rfl ?_
    refine wG rfl rfl (g_lt rfl (.mk rfl rfl) (.mk rfl rfl) (decide_eq_true (by omega))) ?_
    refine WL.nil (hK _ _ ?_); clear hK
    refine WC.seq fun K hK => ?_
    refine WC.cond_true (.mk rfl rfl) ?_
    refine WC.skip ?_
    (refine hK _ _ ?_; clear hK)
    refine WC.seq fun K hK => ?_
    refine WC.block ?_
    refine WC.seq fun K hK => ?_
    refine WC.region rfl ?_
    refine wMI rfl rfl rfl rfl rfl ?_
    refine wAI rfl rfl rfl rfl rfl ?_
    refine WL.nil (hK _ _ ?_); clear hK
    refine WC.seq fun K hK => ?_
    refine WC.region rfl ?_
    refine wG rfl rfl (g_fieldAddr (off := 0) rfl (.mk rfl rfl) rfl (fun _ _ => rfl)) ?_
    refine wG rfl rfl (g_load rfl (.mk rfl rfl) rfl (rd_pt (.tail _ (.tail _ (.head _))) rfl)) ?_
    refine WL.want rfl (WL1.lit (cs := [_]) elU rfl rfl rfl (.cons (.mk (v := .int _ _) rfl rfl) .nil) rfl (by first | (simp [Value.cells]; done) | fail) rfl rfl (fun b20 => ?_))
    refine WL.want rfl (WL1.append elU rfl rfl (.mk rfl rfl) (.mk rfl rfl) (.tail (.head)) (fun w hw => Sl.of_vec hw (.head _)) (all1 rfl) (by unfold maxLen; omega) (by omega) (fun A21 c21 => ?_))
    refine wG rfl rfl (g_fieldAddr (off := 0) rfl (.mk rfl rfl) rfl (fun _ _ => rfl)) ?_
    refine WL.want rfl (WL1.store1 rfl rfl (.mk rfl rfl) (.mk (v := .slice _ _ _) rfl rfl) rfl rfl (Nat.le_of_ble_eq_true rfl) (.tail (.tail (.tail (.head)))) ?_)
    refine WL.nil (hK _ _ ?_); clear hK
    refine WC.until [pt b5 LFT ([Value.slice R i r, Value.slice S i s].set (0 + (0 + 0)) (Value.slice A21 (i + 1) c21))] [9] rfl (by kernel_rfl) ?_
    refine WB.takeP 0 rfl (by decide +kernel) (by decide +kernel) (by decide +kernel) (by decide +kernel) rfl rfl (.inr (Imp.sub (by first | ((repeat (first | exact List.nil_sublist _ | exact List.Sublist.refl _ | apply List.Sublist.cons_cons | apply List.Sublist.cons)); done) | fail))) (g_fieldAddr (off := 1) rfl (.mk rfl rfl) rfl (fun _ _ => rfl)) ?_
    refine WB.take 1 rfl (by decide +kernel) (by decide +kernel) (by decide +kernel) (by decide +kernel) rfl rfl (Imp.sub (by first | ((repeat (first | exact List.nil_sublist _ | exact List.Sublist.refl _ | apply List.Sublist.cons_cons | apply List.Sublist.cons)); done) | fail)) (g_load rfl (.mk rfl rfl) rfl (rd_pt (.head _) rfl)) ?_
    refine WB.takeP 2 rfl (by decide +kernel) (by decide +kernel) (by decide +kernel) (by decide +kernel) rfl rfl (.inr (Imp.sub (by first | ((repeat (first | exact List.nil_sublist _ | exact List.Sublist.refl _ | apply List.Sublist.cons_cons | apply List.Sublist.cons)); done) | fail))) (g_move rfl (.mk (v := .int _ _) rfl rfl)) ?_
    refine WB.takeP 3 rfl (by decide +kernel) (by decide +kernel) (by decide +kernel) (by decide +kernel) rfl rfl (.inr (Imp.sub (by first | ((repeat (first | exact List.nil_sublist _ | exact List.Sublist.refl _ | apply List.Sublist.cons_cons | apply List.Sublist.cons)); done) | fail))) (g_move rfl (.mk (v := .int _ _) rfl rfl)) ?_
    refine WB.takeP 4 rfl (by decide +kernel) (by decide +kernel) (by decide +kernel) (by decide +kernel) rfl rfl (.inr (Imp.sub (by first | ((repeat (first | exact List.nil_sublist _ | exact List.Sublist.refl _ | apply List.Sublist.cons_cons | apply List.Sublist.cons)); done) | fail))) (g_buildArr (cs := [_, _, _, _, _, _, _, _]) rfl rfl rfl rfl rfl .nil rfl rfl rfl) ?_
    refine WB.one 5 (by decide +kernel) rfl rfl ?_
    refine WL1.callP rfl rfl rfl (.cons (.mk (v := .int _ _) rfl rfl) (.cons (.mk (v := .int _ _) rfl rfl) (.cons (.mk (v := .int _ _) rfl rfl) (.cons (.mk (v := .agg _) rfl rfl) .nil)))) (fun w hw => hps w) ?_
    refine WL.nil ?_
    refine ⟨.inr (Imp.sub (by first | ((repeat (first | exact List.nil_sublist _ | exact List.Sublist.refl _ | apply List.Sublist.cons_cons | apply List.Sublist.cons)); done) | fail)), ?_⟩
    refine WB.one 6 (by decide +kernel) rfl rfl ?_
    refine WL1.lit (cs := [_]) elU rfl rfl rfl (.cons (.mk (v := .int _ _) rfl rfl) .nil) rfl (by first | (simp [Value.cells]; done) | fail) rfl rfl (fun b29 => ?_)
    refine WL.nil ?_
    refine ⟨.inr (Imp.sub (by first | ((repeat (first | exact List.nil_sublist _ | exact List.Sublist.refl _ | apply List.Sublist.cons_cons | apply List.Sublist.cons)); done) | fail)), ?_⟩
    refine WB.one 7 (by decide +kernel) rfl rfl ?_
    refine WL1.append elU rfl rfl (.mk rfl rfl) (.mk rfl rfl) (.tail (.tail (.tail (.head)))) (fun w hw => Sl.of_vec hw (.head _)) (all1 rfl) (by unfold maxLen; omega) (by omega) (fun A30 c30 => ?_)
    refine WL.nil ?_
    refine ⟨.inr (Imp.sub (by first | ((repeat (first | exact List.nil_sublist _ | exact List.Sublist.refl _ | apply List.Sublist.cons_cons | apply List.Sublist.cons)); done) | fail)), ?_⟩
    refine WB.takeP 8 rfl (by decide +kernel) (by decide +kernel) (by decide +kernel) (by decide +kernel) rfl rfl (.inr (Imp.sub (by first | ((repeat (first | exact List.nil_sublist _ | exact List.Sublist.refl _ | apply List.Sublist.cons_cons | apply List.Sublist.cons)); done) | fail))) (g_fieldAddr (off := 1) rfl (.mk rfl rfl) rfl (fun _ _ => rfl)) ?_
    refine WB.one 9 (by decide +kernel) rfl rfl ?_
    refine WL1.store1 rfl rfl (.mk rfl rfl) (.mk (v := .slice _ _ _) rfl rfl) rfl rfl (Nat.le_of_ble_eq_true rfl) (.tail (.tail (.tail (.tail (.head))))) ?_
    refine WL.nil ?_
    refine ⟨.inl (by decide +kernel), ?_⟩
    refine WB.done (by decide +kernel) ?_
    (refine hK _ _ ?_; clear hK)
    refine WC.region rfl ?_
    refine wG rfl rfl (g_add rfl (.mk rfl rfl) (.mk rfl rfl) (IntWalk.i64_in _ (by omega))) ?_
    refine wMI rfl rfl rfl rfl rfl ?_
    refine WL.nil ?_
    refine ⟨i + 1, A21, c21, A30, c30, (by repeat (first | exact trivial | refine ⟨rfl, ?_⟩)), ?_, by omega, by omega⟩
    rw [e1, e2]
    exact Imp.pick (by repeat (first | exact .head | apply Take.tail)) (Imp.pick (by repeat (first | exact .head | apply Take.tail)) (Imp.pick (by repeat (first | exact .head | apply Take.tail)) (Imp.pick (by repeat (first | exact .head | apply Take.tail)) (Imp.nil _))))
  · obtain rfl : i = m := by omega
    refine WC.seq fun K hK => ?_
    refine WC.region rfl ?_
    refine wG rfl rfl (g_lt rfl (.mk rfl rfl) (.mk rfl rfl) (decide_eq_false (by omega))) ?_
    refine WL.nil (hK _ _ ?_); clear hK
    refine WC.seq fun K hK => ?_
    refine WC.cond_false (.mk rfl rfl) ?_
    refine WC.exit ?_
    (clear hK; refine hK _ _ ?_; clear hK)
    refine WC.seq fun K hK => ?_
    refine WC.region rfl ?_
    refine wG rfl rfl (g_loadA rfl (.mk rfl rfl) rfl rfl (rdr_pt (.tail _ (.tail _ (.head _))) (fun j u h => by simpa using h))) ?_
    refine WL.want rfl (WL1.storeAll rfl rfl (.mk rfl rfl) (.mk rfl rfl) rfl (all1 rfl) (by first | rfl | (simp [Blk.len]; done)) (.tail (.tail (.tail (.head)))) ?_)
    refine WL.nil (hK _ _ ?_); clear hK
    refine WC.ret ?_
    exact ⟨_, .cell rfl rfl rfl rfl (by first | ((repeat (first | exact .head _ | apply List.Mem.tail)); done) | fail) .nil, fun w' hw' => ⟨_, _, rfl, (Imp.pick (by repeat (first | exact .head | apply Take.tail)) (Imp.pick (by repeat (first | exact .head | apply Take.tail)) (Imp.nil _))).h hw', R, r, S, s, rfl, rfl⟩⟩
set_option maxHeartbeats 1000000 in
theorem bools_t {A B : Option Addr} {c d m : Nat} {a b : List Bool} (w : World) (hA : Sl w 1 (.slice A m c) m (bls a)) (hB : Sl w 1 (.slice B m d) m (bls b)) (ha : a.length = m) (he : b = a) : Calls Tryz.prog 12 #[.slice A m c, .slice B m d] w fun e w' => e = .returned (.bool true) ∧ Below w.heap.size w w' := by
  subst he
  obtain ⟨_, _, e0, _, hm, _⟩ := hA.open_
  unfold maxLen at hm
  refine calls_wc (args := [.slice A m c, .slice B m d]) [4] [] Tryz.func12 rfl Tryz.ntmps12 rfl rfl rfl rfl (H.refl _) ?_
  refine WC.seq fun K hK => ?_
  refine WC.region rfl ?_
  refine wAB rfl rfl rfl rfl rfl ?_
  refine WL.nil (hK _ _ ?_); clear hK
  refine WC.seq fun K hK => ?_
  refine WC.seq fun K hK => ?_
  refine WC.region rfl ?_
  refine wMS rfl rfl rfl rfl rfl ?_
  refine wG rfl rfl (g_len rfl (.mk rfl rfl) rfl) ?_
  refine wMS rfl rfl rfl rfl rfl ?_
  refine wG rfl rfl (g_len rfl (.mk rfl rfl) rfl) ?_
  refine wG rfl rfl (g_ne rfl (.mk rfl rfl) (.mk rfl rfl) (decide_eq_false (by omega))) ?_
  refine WL.nil (hK _ _ ?_); clear hK
  refine WC.cond_false (.mk rfl rfl) ?_
  refine WC.skip ?_
  (refine hK _ _ ?_; clear hK)
  refine WC.seq fun K hK => ?_
  refine WC.seq fun K hK => ?_
  refine WC.region rfl ?_
  refine wAI rfl rfl rfl rfl rfl ?_
  refine WL.nil (hK _ _ ?_); clear hK
  refine WC.block ?_
  refine WC.loopF (fun i : Nat => [(5, iv i), (0, .slice A m c), (1, .slice B m d)]) (fun _ => []) (fun i => i ≤ m) (fun i => m - i) 0 (by repeat (first | exact trivial | refine ⟨rfl, ?_⟩)) (Imp.nil _) (by omega) ?_
  intro i U hi
  by_cases hlt : i < m
  · have g1 := bls_get (l := b) (k := i) (by omega)
    cases hb : nth b i with
    | true =>
      rw [hb] at g1
      refine WC.seq fun K hK => ?_
      refine WC.seq fun K hK => ?_
      refine WC.region rfl ?_
      refine wMI rfl rfl rfl rfl rfl ?_
      refine wMS rfl rfl rfl rfl rfl ?_
      refine wG rfl rfl (g_len rfl (.mk rfl rfl) rfl) ?_
      refine wG rfl rfl (g_lt rfl (.mk rfl rfl) (.mk rfl rfl) (decide_eq_true (by omega))) ?_
      refine WL.nil (hK _ _ ?_); clear hK
      refine WC.cond_true (.mk rfl rfl) ?_
      refine WC.skip ?_
      (refine hK _ _ ?_; clear hK)
      refine WC.seq fun K hK => ?_
      refine WC.block ?_
      refine WC.seq fun K hK => ?_
      refine WC.quiet rfl (by kernel_rfl) (by decide +kernel) ?_
      refine WQ.want rfl (WQ1.give rfl (g_move rfl (.mk (v := .slice _ _ _) rfl rfl)) ?_)
      refine WQ.want rfl (WQ1.give rfl (g_move rfl (.mk (v := .int _ _) rfl rfl)) ?_)
      refine WQ.want rfl (WQ1.give rfl (g_indexAddr (sz := 1) rfl (.mk rfl rfl) (.mk rfl rfl) rfl rfl rfl (by omega) (fun _ _ => sl_some hA (by omega))) ?_)
      refine WQ.want rfl (WQ1.give rfl (g_load rfl (.mk rfl rfl) rfl (rd_sl hA g1)) ?_)
      refine WQ.want rfl (WQ1.give rfl (g_move rfl (.mk (v := .slice _ _ _) rfl rfl)) ?_)
      refine WQ.want rfl (WQ1.give rfl (g_move rfl (.mk (v := .int _ _) rfl rfl)) ?_)
      refine WQ.want rfl (WQ1.give rfl (g_indexAddr (sz := 1) rfl (.mk rfl rfl) (.mk rfl rfl) rfl rfl rfl (by omega) (fun _ _ => sl_some hB (by omega))) ?_)
      refine WQ.want rfl (WQ1.give rfl (g_load rfl (.mk rfl rfl) rfl (rd_sl hB g1)) ?_)
      refine WQ.want rfl (WQ1.give rfl (g_bne (p := false) rfl rfl (.mk rfl rfl) (.mk rfl rfl) rfl) ?_)
      refine WQ.nil ?_
      (refine hK _ _ ?_; clear hK)
      refine WC.cond_false (.mk rfl rfl) ?_
      refine WC.skip ?_
      (refine hK _ _ ?_; clear hK)
      refine WC.region rfl ?_
      refine wMI rfl rfl rfl rfl rfl ?_
      refine wG rfl rfl (g_add rfl (.mk rfl rfl) (.mk rfl rfl) (IntWalk.i64_in _ (by omega))) ?_
      refine wAI rfl rfl rfl rfl rfl ?_
      refine WL.nil ?_
      exact ⟨i + 1, (by repeat (first | exact trivial | refine ⟨rfl, ?_⟩)), Imp.nil _, by omega, by omega⟩
    | false =>
      rw [hb] at g1
      refine WC.seq fun K hK => ?_
      refine WC.seq fun K hK => ?_
      refine WC.region rfl ?_
      refine wMI rfl rfl rfl rfl rfl ?_
      refine wMS rfl rfl rfl rfl rfl ?_
      refine wG rfl rfl (g_len rfl (.mk rfl rfl) rfl) ?_
      refine wG rfl rfl (g_lt rfl (.mk rfl rfl) (.mk rfl rfl) (decide_eq_true (by omega))) ?_
      refine WL.nil (hK _ _ ?_); clear hK
      refine WC.cond_true (.mk rfl rfl) ?_
      refine WC.skip ?_
      (refine hK _ _ ?_; clear hK)
      refine WC.seq fun K hK => ?_
      refine WC.block ?_
      refine WC.seq fun K hK => ?_
      refine WC.quiet rfl (by kernel_rfl) (by decide +kernel) ?_
      refine WQ.want rfl (WQ1.give rfl (g_move rfl (.mk (v := .slice _ _ _) rfl rfl)) ?_)
      refine WQ.want rfl (WQ1.give rfl (g_move rfl (.mk (v := .int _ _) rfl rfl)) ?_)
      refine WQ.want rfl (WQ1.give rfl (g_indexAddr (sz := 1) rfl (.mk rfl rfl) (.mk rfl rfl) rfl rfl rfl (by omega) (fun _ _ => sl_some hA (by omega))) ?_)
      refine WQ.want rfl (WQ1.give rfl (g_load rfl (.mk rfl rfl) rfl (rd_sl hA g1)) ?_)
      refine WQ.want rfl (WQ1.give rfl (g_move rfl (.mk (v := .slice _ _ _) rfl rfl)) ?_)
      refine WQ.want rfl (WQ1.give rfl (g_move rfl (.mk (v := .int _ _) rfl rfl)) ?_)
      refine WQ.want rfl (WQ1.give rfl (g_indexAddr (sz := 1) rfl (.mk rfl rfl) (.mk rfl rfl) rfl rfl rfl (by omega) (fun _ _ => sl_some hB (by omega))) ?_)
      refine WQ.want rfl (WQ1.give rfl (g_load rfl (.mk rfl rfl) rfl (rd_sl hB g1)) ?_)
      refine WQ.want rfl (WQ1.give rfl (g_bne (p := false) rfl rfl (.mk rfl rfl) (.mk rfl rfl) rfl) ?_)
      refine WQ.nil ?_
      (refine hK _ _ ?_; clear hK)
      refine WC.cond_false (.mk rfl rfl) ?_
      refine WC.skip ?_
      (refine hK _ _ ?_; clear hK)
      refine WC.region rfl ?_
      refine wMI rfl rfl rfl rfl rfl ?_
      refine wG rfl rfl (g_add rfl (.mk rfl rfl) (.mk rfl rfl) (IntWalk.i64_in _ (by omega))) ?_
      refine wAI rfl rfl rfl rfl rfl ?_
      refine WL.nil ?_
      exact ⟨i + 1, (by repeat (first | exact trivial | refine ⟨rfl, ?_⟩)), Imp.nil _, by omega, by omega⟩
  · obtain rfl : i = m := by omega
    refine WC.seq fun K hK => ?_
    refine WC.seq fun K hK => ?_
    refine WC.region rfl ?_
    refine wMI rfl rfl rfl rfl rfl ?_
    refine wMS rfl rfl rfl rfl rfl ?_
    refine wG rfl rfl (g_len rfl (.mk rfl rfl) rfl) ?_
    refine wG rfl rfl (g_lt rfl (.mk rfl rfl) (.mk rfl rfl) (decide_eq_false (by omega))) ?_
    refine WL.nil (hK _ _ ?_); clear hK
    refine WC.cond_false (.mk rfl rfl) ?_
    refine WC.exit ?_
    (clear hK; refine hK _ _ ?_; clear hK)
    refine WC.seq fun K hK => ?_
    refine WC.region rfl ?_
    refine wAB rfl rfl rfl rfl rfl ?_
    refine WL.nil (hK _ _ ?_); clear hK
    refine WC.ret ?_
    exact fun w' hw' => ⟨rfl, hw'.1⟩
end Go.Proofs.YtdcijljfgcjelaaGreat
namespace Go.Proofs.YtdcijljfgcjelaaGreat
set_option maxRecDepth 20000
open Go.RowKit Go.ChangeMaps Go.MapKept
section
def selfR (v : Value) : Option (DataW Value × List MemPlace) := some (.held v, [])
theorem run_zero {P : Program} {t : TypeId} {z : Value} (h : (P.info? t).map (·.zero) = some (some z)) (w : World) : (zeroValue t).run P w = .ok z w := by
  cases hi : P.info? t with
  | none => rw [hi] at h; cases h
  | some i =>
    rw [hi] at h
    have hz : i.zero = some z := by simpa using h
    simp [zeroValue, typeInfo, hi, hz]
def mp (P : Program) (k : TypeId) (b n : Nat) (D : DataW Value) : Asrt where
  foot i := i = b
  ok w := w.ownsMap P k selfR b n D
  loc w w' h hw := by
    obtain ⟨es, clock, hb, r⟩ := hw
    exact ⟨es, clock, (h b rfl).trans hb, r⟩
theorem H.newMap {P : Program} {w0 w : World} {L : List Asrt} (k : TypeId) (h : H w0 L w) : H w0 (mp P k w.heap.size 0 (.map []) :: L) (w.alloc (.map #[] 0)) := by
  have hb : Below w.heap.size w (w.alloc (.map #[] 0)) := below_alloc w _
  have h' := h.below hb
  refine ⟨h'.1, World.ownsMap_made w P k selfR, fun b hb' => ?_, fun C hC b hb' hc => ?_, h'.2⟩
  · have hb'' : b = w.heap.size := hb'
    subst hb''
    exact ⟨h.1.size, by simp⟩
  · have hb'' : b = w.heap.size := hb'
    subst hb''
    have := ((h.2.in_ C hC).2 _ hc).2
    omega
end
def rgA (P : Program) (k : TypeId) (b r c : Nat) (D : DataW Value) (left : Lit → Bool) (cnt : Nat) : Asrt where
  foot i := i = b ∨ i = r
  ok w := w.ranges P k selfR b r c D left cnt
  loc w w' h hw := by
    obtain ⟨es, clock, since, seen, c0, hb, h1, h2, h3, hr, rest⟩ := hw
    exact ⟨es, clock, since, seen, c0, (h b (.inl rfl)).trans hb, h1, h2, h3, (h r (.inr rfl)).trans hr, rest⟩
theorem entry_loc {P : Program} {w w' : World} {r b since c0 clock : Nat} {seen : Array Nat} {es : Array MapEntry} {v : Value} (hr : w.heap[r]? = some (.mapIter (some b) since seen c0)) (hb : w.heap[b]? = some (.map es clock)) (hr' : w'.heap[r]? = some (.mapIter (some b) since seen c0)) (hb' : w'.heap[b]? = some (.map es clock))
    (h : (Instr.entry (.pointer (some ⟨r, 0, none⟩))).run P w = .ok v w) : (Instr.entry (.pointer (some ⟨r, 0, none⟩))).run P w' = .ok v w' := by
  simp only [Instr.entry, getObj, Sem.run_bind, Sem.run, hr, hr', Result.andThen] at h ⊢
  cases hs : seen.back? with
  | none => simp [hs, stuck] at h
  | some st =>
    simp only [hs, Sem.run_bind, Sem.run, hb, hb', Result.andThen] at h ⊢
    by_cases hc : (clock != c0) = true
    · rw [if_pos hc] at h; simp [unsupported] at h
    · rw [if_neg hc] at h ⊢
      cases hf : es.find? (fun x => x.born == st) with
      | none => simp only [hf] at h; simp [unsupported] at h
      | some e => simp only [hf] at h ⊢; simpa using h
def rgE (P : Program) (k : TypeId) (b r c : Nat) (D : DataW Value) (left : Lit → Bool) (cnt : Nat) (key v : Value) : Asrt where
  foot i := i = b ∨ i = r
  ok w := w.ranges P k selfR b r c D left cnt ∧ (Instr.entry (.pointer (some ⟨r, 0, none⟩))).run P w = .ok (.tuple #[key, v]) w
  loc w w' h hw := by
    obtain ⟨hw, hen⟩ := hw
    obtain ⟨es, clock, since, seen, c0, hb, h1, h2, h3, hr, rest⟩ := hw
    exact ⟨⟨es, clock, since, seen, c0, (h b (.inl rfl)).trans hb, h1, h2, h3, (h r (.inr rfl)).trans hr, rest⟩, entry_loc hr hb ((h r (.inr rfl)).trans hr) ((h b (.inl rfl)).trans hb) hen⟩
theorem Imp.rgE {P : Program} {k : TypeId} {b r c cnt : Nat} {D : DataW Value} {left : Lit → Bool} {key v : Value} {L : List Asrt} : Imp (rgE P k b r c D left cnt key v :: L) (rgA P k b r c D left cnt :: L) where
  foot D hD i hi := by
    rcases List.mem_cons.1 hD with rfl | hD
    · exact ⟨_, .head _, hi⟩
    · exact ⟨D, .tail _ hD, hi⟩
  sep := fun ⟨h1, h2, h3, h4⟩ => ⟨h1.1, h2, h3, h4⟩
theorem Imp.rgM {P : Program} {k : TypeId} {b r c cnt : Nat} {D : DataW Value} {left : Lit → Bool} {L : List Asrt} : Imp (rgA P k b r c D left cnt :: L) (mp P k b c D :: L) where
  foot D hD i hi := by
    rcases List.mem_cons.1 hD with rfl | hD
    · exact ⟨_, .head _, .inl hi⟩
    · exact ⟨D, .tail _ hD, hi⟩
  sep := fun ⟨h1, h2, h3, h4⟩ => ⟨h1.owns, fun i hi => h2 i (.inl hi), fun C hC i hi => h3 C hC i (.inl hi), h4⟩
theorem Imp.rgT {P : Program} {k : TypeId} {b r c cnt : Nat} {D : DataW Value} {left : Lit → Bool} {L L1 M : List Asrt} (hT : Take (rgA P k b r c D left cnt) L L1) (h : Imp L1 M) : Imp L (mp P k b c D :: M) :=
  (Imp.perm hT.perm).trans (Imp.rgM.trans (Imp.cons h))
theorem Imp.rgU {P : Program} {k : TypeId} {b r c cnt : Nat} {D : DataW Value} {left : Lit → Bool} {key v : Value} {L L1 M : List Asrt} (hT : Take (Go.Proofs.YtdcijljfgcjelaaGreat.rgE P k b r c D left cnt key v) L L1) (h : Imp L1 M) : Imp L (rgA P k b r c D left cnt :: M) :=
  (Imp.perm hT.perm).trans (Imp.rgE.trans (Imp.cons h))
theorem mp_own {P : Program} {k : TypeId} {b c : Nat} {D : DataW Value} {w0 w : World} {L : List Asrt} (hw : H w0 L w) (hm : mp P k b c D ∈ L) : w.ownsMap P k selfR b c D := (hw.2.in_ _ hm).1
theorem own_below {P : Program} {k : TypeId} {b c : Nat} {D : DataW Value} {w w' : World} (h : w.ownsMap P k selfR b c D) (hb : Below w.heap.size w w') : w'.ownsMap P k selfR b c D :=
  (mp P k b c D).loc w w' (fun i hi => hb.block i (by have := h.lt; have : i = b := hi; omega)) h
section
variable {P : Program} {n : Fr} {w0 : World} {ops : Array Oper} {K : Post} {o : Oper} {rest : List Oper} {E : Env} {L : List Asrt}
theorem WL1.makeMap {t k : TypeId} {d : Nat} (ho : o.op = .makeMap t none) (hd : o.dst = some d)
    (h : ∀ b, WL P n w0 ops K rest (E.set d (.map (some b))) (mp P k b 0 (.map []) :: L)) : WL1 P n w0 ops K o rest E L := fun w hw Q hQ K' hK => by
  unfold Oper.wp execOp
  simp only [ho, Option.map_none, run_makeMap, Sem.run_bind, Sem.run, Sem.run_pure, Result.andThen_ok]
  show K' _ _
  rw [actOf_put, hd]
  exact hK _ _ (h w.heap.size _ (hw.newMap k) Q hQ)
open Go.Maps (Keyed) in
theorem WL1.mapUpdate {t k e : TypeId} {m kx x : Operand} {b c : Nat} {D : DataW Value} {key val : Value} {kl : Lit} {L' : List Asrt} (ho : o.op = .mapUpdate t m kx x) (hd : o.dst = none) (hm : Ev n E m (.map (some b))) (hk : Ev n E kx key) (hx : Ev n E x val)
    (K0 : Keyed P k) (ht : P.underlying t = some (.map k e)) (hc : c < maxLen) (hkey : keyOf P k key = some kl) (hs : Swap (mp P k b c D) (mp P k b (c + 1) (D.put kl (.held val))) L L') (h : WL P n w0 ops K rest E L') : WL1 P n w0 ops K o rest E L := fun w hw Q hQ K' hK => by
  have hown : w.ownsMap P k selfR b c D := (hw.2.in_ _ hs.mem).1
  obtain ⟨w', hrun, hown', es, clock, es', clock', hb, rfl⟩ := hown.store K0 ht hc (d := .held val) (ps := []) hkey rfl
  unfold Ev at hm hk hx
  unfold Oper.wp execOp
  simp only [ho, hm, hk, hx, Sem.run_bind, Sem.run_pure, Result.andThen_ok, hrun]
  show K' _ _
  rw [actOf_put, hd]
  refine hK _ _ (h _ ?_ Q hQ)
  exact hw.swapped hs (by simp [setBlock]) rfl rfl rfl (fun _ h => h) (fun i hi => heap_setBlock_other hb _ hi) hown'
open Go.Maps (Keyed) in
theorem g_look {t k e : TypeId} {m kx : Operand} {b c : Nat} {D : DataW Value} {key z v : Value} {kl : Lit} (hm : mp P k b c D ∈ L) (ho : o.op = .lookup t m kx false) (hx : Ev n E m (.map (some b))) (hk : Ev n E kx key)
    (K0 : Keyed P k) (ht : P.underlying t = some (.map k e)) (hz : ∀ w, (zeroValue e).run P w = .ok z w) (hkey : keyOf P k key = some kl) (hv : D.atKey kl (.held z) = .held v) : Gives P n (H w0 L) o E v := fun w hw => by
  have hown : w.ownsMap P k selfR b c D := (hw.2.in_ _ hm).1
  obtain ⟨u, ps, hrun, hu⟩ := hown.lookup K0 ht (hz w) (zd := .held z) (zp := []) rfl hkey
  rw [hv] at hu
  have : u = v := by simpa [selfR] using congrArg (fun x => x.map Prod.fst) hu
  subst this
  unfold Ev at hx hk; unfold execOp
  simp only [ho, hx, hk, Sem.run_bind, Sem.run_pure, Result.andThen_ok, hrun]
open Go.Maps (Keyed) in
theorem g_lookOkW {C : World → Prop} {t k e : TypeId} {m kx : Operand} {b c : Nat} {D : DataW Value} {key z v : Value} {p : Bool} {kl : Lit} (hm : ∀ w, C w → w.ownsMap P k selfR b c D) (ho : o.op = .lookup t m kx true) (hx : Ev n E m (.map (some b))) (hk : Ev n E kx key)
    (K0 : Keyed P k) (ht : P.underlying t = some (.map k e)) (hz : ∀ w, (zeroValue e).run P w = .ok z w) (hkey : keyOf P k key = some kl) (hv : D.atKey kl (.held z) = .held v) (hp : Maps.has D kl = p) : Gives P n C o E (.tuple #[v, .bool p]) := fun w hw => by
  have hown : w.ownsMap P k selfR b c D := hm w hw
  obtain ⟨u, ps, hrun, hu⟩ := hown.look_ok K0 ht (hz w) (zd := .held z) (zp := []) rfl hkey
  rw [hv] at hu
  rw [hp] at hrun
  have : u = v := by simpa [selfR] using congrArg (fun x => x.map Prod.fst) hu
  subst this
  unfold Ev at hx hk; unfold execOp
  simp only [ho, hx, hk, Sem.run_bind, Sem.run_pure, Result.andThen_ok, hrun]
open Go.Maps (Keyed) in
theorem WL1.range {t k e : TypeId} {m : Operand} {b c d : Nat} {D : DataW Value} {L1 : List Asrt} (ho : o.op = .range t m) (hd : o.dst = some d) (hm : Ev n E m (.map (some b))) (K0 : Keyed P k) (ht : P.underlying t = some (.map k e))
    (h : ∀ r, WL P n w0 ops K rest (E.set d (.pointer (some ⟨r, 0, none⟩))) (rgA P k b r c D (Maps.has D) (Maps.size D) :: L1)) : WL1 P n w0 ops K o rest E (mp P k b c D :: L1) := fun w hw Q hQ K' hK => by
  have hown : w.ownsMap P k selfR b c D := hw.2.1
  have hlt := hown.lt
  obtain ⟨w', hrun, hr, hg, hsz⟩ := hown.range K0 ht
  have hb : Below w.heap.size w w' := ⟨hg.os, hg.tape, hg.output, hg.size, fun i hi => hg.block i hi (by simp)⟩
  have hw' := hw.below hb
  have hH : H w0 (rgA P k b w.heap.size c D (Maps.has D) (Maps.size D) :: L1) w' := by
    refine ⟨hw'.1, hr, fun i hi => ?_, fun C hC i hi hc => ?_, hw'.2.2.2.2⟩
    · rcases hi with rfl | rfl
      · exact hw'.2.2.1 _ rfl
      · exact ⟨hw.1.size, by omega⟩
    · rcases hi with rfl | rfl
      · exact hw'.2.2.2.1 C hC _ rfl hc
      · have := ((hw.2.in_ C (.tail _ hC)).2 _ hc).2
        omega
  unfold Ev at hm
  unfold Oper.wp execOp
  simp only [ho, hm, Sem.run_bind, Sem.run_pure, Result.andThen_ok, hrun]
  show K' _ _
  rw [actOf_put, hd]
  exact hK _ _ (h w.heap.size _ hH Q hQ)
open Go.Maps (Keyed) in
theorem WL1.next {k : TypeId} {it : Operand} {b r c d cnt : Nat} {D : DataW Value} {left : Lit → Bool} {L1 : List Asrt} (ho : o.op = .next it false) (hd : o.dst = some d) (hi : Ev n E it (.pointer (some ⟨r, 0, none⟩))) (K0 : Keyed P k)
    (hDone : cnt = 0 → (∀ kl, left kl = false) → WL P n w0 ops K rest (E.set d (.tuple #[.bool false])) (rgA P k b r c D left cnt :: L1))
    (hMore : ∀ key v kl cnt', keyOf P k key = some kl → left kl = true → (∀ zd, D.atKey kl zd = .held v) → cnt' < cnt → WL P n w0 ops K rest (E.set d (.tuple #[.bool true, key, v])) (rgE P k b r c D (fun x => left x && !x.sameKey kl) cnt' key v :: L1)) :
    WL1 P n w0 ops K o rest E (rgA P k b r c D left cnt :: L1) := fun w hw Q hQ K' hK => by
  have hr : w.ranges P k selfR b r c D left cnt := hw.2.1
  unfold Ev at hi
  unfold Oper.wp execOp
  rcases hr.next K0 o.type with ⟨h0, hl, hrun⟩ | ⟨key, v, kl, y, w', cnt', hkey, hlk, hv, hat, hrun, hrg, hlt, hgr, hsz, hen⟩
  · simp only [ho, hi, Sem.run_bind, Sem.run_pure, Result.andThen_ok, hrun]
    show K' _ _
    rw [actOf_put, hd]
    exact hK _ _ (hDone h0 hl _ hw Q hQ)
  · have hy : y.1 = .held v := by
      have : some (DataW.held v, ([] : List MemPlace)) = some y := hv
      injection this with e
      rw [← e]
    simp only [ho, hi, Sem.run_bind, Sem.run_pure, Result.andThen_ok, hrun]
    show K' _ _
    rw [actOf_put, hd]
    refine hK _ _ (hMore key v kl cnt' hkey hlk (fun zd => by rw [hat, hy]) hlt _ ?_ Q hQ)
    exact hw.swapped .head hsz hgr.os hgr.tape hgr.output (fun _ h => h) (fun i hi => by
      by_cases h1 : i < w.heap.size
      · exact hgr.block i h1 (fun q => hi (.inr (by injection q)))
      · rw [Array.getElem?_eq_none (by omega), Array.getElem?_eq_none (by omega)]) ⟨hrg, hen⟩
theorem g_entry {k : TypeId} {it : Operand} {b r c cnt : Nat} {D : DataW Value} {left : Lit → Bool} {key v : Value} (hm : rgE P k b r c D left cnt key v ∈ L) (ho : o.op = .entry it) (hi : Ev n E it (.pointer (some ⟨r, 0, none⟩))) : Gives P n (H w0 L) o E (.tuple #[key, v]) := fun w hw => by
  have hen := (hw.2.in_ _ hm).1.2
  unfold Ev at hi; unfold execOp
  simp only [ho, hi, Sem.run_bind, Sem.run_pure, Result.andThen_ok, hen]
end
end Go.Proofs.YtdcijljfgcjelaaGreat
namespace Go.Proofs.YtdcijljfgcjelaaGreat
set_option maxRecDepth 20000
open Go.RowKit
attribute [local irreducible] Calls
theorem ldv_ivs (l : List Nat) : ldv l = ivs (l.map fun k : Nat => (k : Int)) := by unfold ldv ivs; rw [List.map_map]; rfl
def gfnd (p : Nat → Bool) : Nat → Option Nat
  | 0 => none
  | n + 1 => match gfnd p n with
    | some j => some j
    | none => if p n then some n else none
theorem gfnd_eq {p : Nat → Bool} : ∀ {n j : Nat}, j < n → p j = true → (∀ i, i < j → p i = false) → gfnd p n = some j
  | 0, _, h, _, _ => absurd h (by omega)
  | n + 1, j, h, hp, hq => by
    unfold gfnd
    by_cases e : j = n
    · have : gfnd p n = none := by
        have key : ∀ m, m ≤ j → gfnd p m = none := fun m => by
          induction m with
          | zero => intro _; rfl
          | succ m ih => intro hm; unfold gfnd; rw [ih (by omega), hq m (by omega)]; rfl
        rw [← e]; exact key j (Nat.le_refl _)
      rw [this, ← e, hp]; rfl
    · rw [gfnd_eq (by omega) hp hq]
theorem gfnd_all {p : Nat → Bool} : ∀ {n : Nat}, (∀ i, i < n → p i = false) → gfnd p n = none
  | 0, _ => rfl
  | n + 1, h => by unfold gfnd; rw [gfnd_all fun i hi => h i (by omega), h n (by omega)]; rfl
theorem gfnd_some {p : Nat → Bool} : ∀ {n j : Nat}, gfnd p n = some j → j < n ∧ p j = true
  | 0, _, h => by cases h
  | n + 1, j, h => by
    unfold gfnd at h
    cases e : gfnd p n with
    | some k => rw [e] at h; injection h with h; subst h; have := gfnd_some e; exact ⟨by omega, this.2⟩
    | none =>
      rw [e] at h
      by_cases hp : p n = true
      · rw [hp] at h; injection h with h; subst h; exact ⟨by omega, hp⟩
      · simp only [hp] at h; cases h
theorem gfnd_none {p : Nat → Bool} : ∀ {n : Nat}, gfnd p n = none → ∀ i, i < n → p i = false
  | 0, _, i, hi => absurd hi (by omega)
  | n + 1, h, i, hi => by
    unfold gfnd at h
    cases e : gfnd p n with
    | some k => rw [e] at h; cases h
    | none =>
      rw [e] at h
      by_cases hin : i = n
      · subst hin
        cases hp : p i with
        | false => rfl
        | true => rw [hp] at h; cases h
      · exact gfnd_none e i (by omega)
def gfz : Option Nat → Int
  | some k => k
  | none => -1
theorem gfz_ge (o : Option Nat) : decide (0 ≤ gfz o) = o.isSome := by
  cases o with
  | none => rfl
  | some k => exact decide_eq_true (Int.natCast_nonneg k)
def hasB (l : List Int) (x : Int) : Bool := (gfnd (fun k => decide (nth l k = x)) l.length).isSome
set_option maxHeartbeats 1000000 in
theorem index_e (v : Value) (l : List Int) (x : Int) (w : World) (hv : Sl w 1 v l.length (ivs l)) : Calls Tryz.prog 145 #[v, iv x] w fun e w' => e = .returned (iv (gfz (gfnd (fun k => decide (nth l k = x)) l.length))) ∧ Below w.heap.size w w' := by
  obtain ⟨A, cc, rfl, hcc, hm, hs⟩ := hv.open_
  unfold maxLen at hm
  refine calls_wc (args := [.slice A l.length cc, iv x]) [4] [] Tryz.func145 rfl Tryz.ntmps145 rfl rfl rfl rfl (H.refl w) ?_
  refine WC.seq fun K hK => ?_
  refine WC.region rfl ?_
  refine wAI rfl rfl rfl rfl rfl ?_
  refine WL.nil (hK _ _ ?_); clear hK
  refine WC.seq fun K hK => ?_
  refine WC.seq fun K hK => ?_
  refine WC.region rfl ?_
  refine wMS rfl rfl rfl rfl rfl ?_
  refine wG rfl rfl (g_len rfl (.mk rfl rfl) rfl) ?_
  refine wMI rfl rfl rfl rfl rfl ?_
  refine WL.nil (hK _ _ ?_); clear hK
  refine WC.block ?_
  refine WC.loopF (fun k : Nat => [(8, iv k), (7, iv l.length), (0, .slice A l.length cc), (1, iv x)]) (fun _ => []) (fun k => k ≤ l.length ∧ ∀ j, j < k → decide (nth l j = x) = false) (fun k => l.length - k) 0 (by repeat (first | exact trivial | refine ⟨rfl, ?_⟩)) (Imp.nil _) ⟨by omega, fun j hj => absurd hj (by omega)⟩ ?_
  rintro k U ⟨hk, hq⟩
  by_cases hlt : k < l.length
  · have hgv := ivs_get hlt
    by_cases he : nth l k = x
    · refine WC.seq fun K hK => ?_
      refine WC.region rfl ?_
      refine wG rfl rfl (g_lt rfl (.mk rfl rfl) (.mk rfl rfl) (decide_eq_true (by omega))) ?_
      refine WL.nil (hK _ _ ?_); clear hK
      refine WC.seq fun K hK => ?_
      refine WC.cond_true (.mk rfl rfl) ?_
      refine WC.skip ?_
      (refine hK _ _ ?_; clear hK)
      refine WC.seq fun K hK => ?_
      refine WC.block ?_
      refine WC.seq fun K hK => ?_
      refine WC.region rfl ?_
      refine wMI rfl rfl rfl rfl rfl ?_
      refine wAI rfl rfl rfl rfl rfl ?_
      refine WL.nil (hK _ _ ?_); clear hK
      refine WC.seq fun K hK => ?_
      refine WC.region rfl ?_
      refine wMI rfl rfl rfl rfl rfl ?_
      refine wMS rfl rfl rfl rfl rfl ?_
      refine wMI rfl rfl rfl rfl rfl ?_
      refine wG rfl rfl (g_indexAddr (sz := 1) rfl (.mk rfl rfl) (.mk rfl rfl) rfl rfl rfl (by omega) (fun _ _ => sl_some hs (by omega))) ?_
      refine wG rfl rfl (g_load rfl (.mk rfl rfl) rfl (rd_sl hs hgv)) ?_
      refine wG rfl rfl (g_eq rfl (.mk rfl rfl) (.mk rfl rfl) (decide_eq_true (by omega))) ?_
      refine WL.nil (hK _ _ ?_); clear hK
      refine WC.cond_true (.mk rfl rfl) ?_
      refine WC.seq fun K hK => ?_
      refine WC.region rfl ?_
      refine wMI rfl rfl rfl rfl rfl ?_
      refine wAI rfl rfl rfl rfl rfl ?_
      refine WL.nil (hK _ _ ?_); clear hK
      refine WC.ret ?_
      exact fun w' hw' => ⟨by rw [gfnd_eq (p := fun k => decide (nth l k = x)) hlt (decide_eq_true he) hq]; rfl, hw'.1⟩
    · have he2 : ¬ x = nth l k := fun h => he h.symm
      refine WC.seq fun K hK => ?_
      refine WC.region rfl ?_
      refine wG rfl rfl (g_lt rfl (.mk rfl rfl) (.mk rfl rfl) (decide_eq_true (by omega))) ?_
      refine WL.nil (hK _ _ ?_); clear hK
      refine WC.seq fun K hK => ?_
      refine WC.cond_true (.mk rfl rfl) ?_
      refine WC.skip ?_
      (refine hK _ _ ?_; clear hK)
      refine WC.seq fun K hK => ?_
      refine WC.block ?_
      refine WC.seq fun K hK => ?_
      refine WC.region rfl ?_
      refine wMI rfl rfl rfl rfl rfl ?_
      refine wAI rfl rfl rfl rfl rfl ?_
      refine WL.nil (hK _ _ ?_); clear hK
      refine WC.seq fun K hK => ?_
      refine WC.region rfl ?_
      refine wMI rfl rfl rfl rfl rfl ?_
      refine wMS rfl rfl rfl rfl rfl ?_
      refine wMI rfl rfl rfl rfl rfl ?_
      refine wG rfl rfl (g_indexAddr (sz := 1) rfl (.mk rfl rfl) (.mk rfl rfl) rfl rfl rfl (by omega) (fun _ _ => sl_some hs (by omega))) ?_
      refine wG rfl rfl (g_load rfl (.mk rfl rfl) rfl (rd_sl hs hgv)) ?_
      refine wG rfl rfl (g_eq rfl (.mk rfl rfl) (.mk rfl rfl) (decide_eq_false (by omega))) ?_
      refine WL.nil (hK _ _ ?_); clear hK
      refine WC.cond_false (.mk rfl rfl) ?_
      refine WC.skip ?_
      (refine hK _ _ ?_; clear hK)
      refine WC.region rfl ?_
      refine wG rfl rfl (g_add rfl (.mk rfl rfl) (.mk rfl rfl) (IntWalk.i64_in _ (by omega))) ?_
      refine wMI rfl rfl rfl rfl rfl ?_
      refine WL.nil ?_
      refine ⟨k + 1, (by repeat (first | exact trivial | refine ⟨rfl, ?_⟩)), .refl _, ⟨by omega, fun j hj => ?_⟩, by omega⟩
      by_cases e : j = k
      · rw [e]; exact decide_eq_false he
      · exact hq j (by omega)
  · obtain rfl : k = l.length := by omega
    refine WC.seq fun K hK => ?_
    refine WC.region rfl ?_
    refine wG rfl rfl (g_lt rfl (.mk rfl rfl) (.mk rfl rfl) (decide_eq_false (by omega))) ?_
    refine WL.nil (hK _ _ ?_); clear hK
    refine WC.seq fun K hK => ?_
    refine WC.cond_false (.mk rfl rfl) ?_
    refine WC.exit ?_
    (clear hK; refine hK _ _ ?_; clear hK)
    refine WC.seq fun K hK => ?_
    refine WC.region rfl ?_
    refine wAI rfl rfl rfl rfl rfl ?_
    refine WL.nil (hK _ _ ?_); clear hK
    refine WC.ret ?_
    exact fun w' hw' => ⟨by rw [gfnd_all hq]; rfl, hw'.1⟩
set_option maxHeartbeats 1000000 in
theorem contains_e (v : Value) (l : List Int) (x : Int) (w : World) (hv : Sl w 1 v l.length (ivs l)) : Calls Tryz.prog 98 #[v, iv x] w fun e w' => e = .returned (.bool (hasB l x)) ∧ Below w.heap.size w w' := by
  have hix := fun w' hb => index_e v l x w' (hv.below (w' := w') hb)
  obtain ⟨z, hz⟩ : ∃ z, z = gfz (gfnd (fun k => decide (nth l k = x)) l.length) := ⟨_, rfl⟩
  have hb : decide (0 ≤ z) = hasB l x := by rw [hz]; exact gfz_ge _
  rw [← hz] at hix
  obtain ⟨A, cc, rfl, hcc, hm, hs⟩ := hv.open_
  refine calls_wc (args := [.slice A l.length cc, iv x]) [4] [] Tryz.func98 rfl Tryz.ntmps98 rfl rfl rfl rfl (H.refl w) ?_
  refine WC.seq fun K hK => ?_
  refine WC.region rfl ?_
  refine wAB rfl rfl rfl rfl rfl ?_
  refine WL.nil (hK _ _ ?_); clear hK
  refine WC.seq fun K hK => ?_
  refine WC.region rfl ?_
  refine wMS rfl rfl rfl rfl rfl ?_
  refine wMI rfl rfl rfl rfl rfl ?_
  refine WL.want rfl (WL1.callP rfl rfl rfl (.cons (.mk (v := .slice _ _ _) rfl rfl) (.cons (.mk (v := .int _ _) rfl rfl) .nil)) (fun w hw => hix w hw.1) ?_)
  refine wG rfl rfl (g_ge rfl (.mk rfl rfl) (.mk rfl rfl) hb) ?_
  refine wAB rfl rfl rfl rfl rfl ?_
  refine WL.nil (hK _ _ ?_); clear hK
  refine WC.ret ?_
  exact fun w' hw' => ⟨rfl, hw'.1⟩
set_option maxHeartbeats 1000000 in
theorem has_e (v : Value) (l : List Int) (x : Int) (w : World) (hv : Sl w 1 v l.length (ivs l)) : Calls Tryz.prog 47 #[v, iv x] w fun e w' => e = .returned (.bool (hasB l x)) ∧ Below w.heap.size w w' := by
  obtain ⟨A, cc, rfl, hcc, hm, hs⟩ := hv.open_
  unfold maxLen at hm
  refine calls_wc (args := [.slice A l.length cc, iv x]) [4] [] Tryz.func47 rfl Tryz.ntmps47 rfl rfl rfl rfl (H.refl w) ?_
  refine WC.seq fun K hK => ?_
  refine WC.region rfl ?_
  refine wAB rfl rfl rfl rfl rfl ?_
  refine WL.nil (hK _ _ ?_); clear hK
  refine WC.seq fun K hK => ?_
  refine WC.seq fun K hK => ?_
  refine WC.region rfl ?_
  refine wAI rfl rfl rfl rfl rfl ?_
  refine WL.nil (hK _ _ ?_); clear hK
  refine WC.block ?_
  refine WC.loopF (fun k : Nat => [(5, iv k), (0, .slice A l.length cc), (1, iv x)]) (fun _ => []) (fun k => k ≤ l.length ∧ ∀ j, j < k → decide (nth l j = x) = false) (fun k => l.length - k) 0 (by repeat (first | exact trivial | refine ⟨rfl, ?_⟩)) (Imp.nil _) ⟨by omega, fun j hj => absurd hj (by omega)⟩ ?_
  rintro k U ⟨hk, hq⟩
  by_cases hlt : k < l.length
  · have hgv := ivs_get hlt
    by_cases he : nth l k = x
    · refine WC.seq fun K hK => ?_
      refine WC.seq fun K hK => ?_
      refine WC.region rfl ?_
      refine wMI rfl rfl rfl rfl rfl ?_
      refine wMS rfl rfl rfl rfl rfl ?_
      refine wG rfl rfl (g_len rfl (.mk rfl rfl) rfl) ?_
      refine wG rfl rfl (g_lt rfl (.mk rfl rfl) (.mk rfl rfl) (decide_eq_true (by omega))) ?_
      refine WL.nil (hK _ _ ?_); clear hK
      refine WC.cond_true (.mk rfl rfl) ?_
      refine WC.skip ?_
      (refine hK _ _ ?_; clear hK)
      refine WC.seq fun K hK => ?_
      refine WC.block ?_
      refine WC.seq fun K hK => ?_
      refine WC.region rfl ?_
      refine wMS rfl rfl rfl rfl rfl ?_
      refine wMI rfl rfl rfl rfl rfl ?_
      refine wG rfl rfl (g_indexAddr (sz := 1) rfl (.mk rfl rfl) (.mk rfl rfl) rfl rfl rfl (by omega) (fun _ _ => sl_some hs (by omega))) ?_
      refine wG rfl rfl (g_load rfl (.mk rfl rfl) rfl (rd_sl hs hgv)) ?_
      refine wMI rfl rfl rfl rfl rfl ?_
      refine wG rfl rfl (g_eq rfl (.mk rfl rfl) (.mk rfl rfl) (decide_eq_true (by omega))) ?_
      refine WL.nil (hK _ _ ?_); clear hK
      refine WC.cond_true (.mk rfl rfl) ?_
      refine WC.seq fun K hK => ?_
      refine WC.region rfl ?_
      refine wAB rfl rfl rfl rfl rfl ?_
      refine WL.nil (hK _ _ ?_); clear hK
      refine WC.ret ?_
      exact fun w' hw' => ⟨by rw [hasB, gfnd_eq (p := fun k => decide (nth l k = x)) hlt (decide_eq_true he) hq]; rfl, hw'.1⟩
    · refine WC.seq fun K hK => ?_
      refine WC.seq fun K hK => ?_
      refine WC.region rfl ?_
      refine wMI rfl rfl rfl rfl rfl ?_
      refine wMS rfl rfl rfl rfl rfl ?_
      refine wG rfl rfl (g_len rfl (.mk rfl rfl) rfl) ?_
      refine wG rfl rfl (g_lt rfl (.mk rfl rfl) (.mk rfl rfl) (decide_eq_true (by omega))) ?_
      refine WL.nil (hK _ _ ?_); clear hK
      refine WC.cond_true (.mk rfl rfl) ?_
      refine WC.skip ?_
      (refine hK _ _ ?_; clear hK)
      refine WC.seq fun K hK => ?_
      refine WC.block ?_
      refine WC.seq fun K hK => ?_
      refine WC.region rfl ?_
      refine wMS rfl rfl rfl rfl rfl ?_
      refine wMI rfl rfl rfl rfl rfl ?_
      refine wG rfl rfl (g_indexAddr (sz := 1) rfl (.mk rfl rfl) (.mk rfl rfl) rfl rfl rfl (by omega) (fun _ _ => sl_some hs (by omega))) ?_
      refine wG rfl rfl (g_load rfl (.mk rfl rfl) rfl (rd_sl hs hgv)) ?_
      refine wMI rfl rfl rfl rfl rfl ?_
      refine wG rfl rfl (g_eq rfl (.mk rfl rfl) (.mk rfl rfl) (decide_eq_false (by omega))) ?_
      refine WL.nil (hK _ _ ?_); clear hK
      refine WC.cond_false (.mk rfl rfl) ?_
      refine WC.skip ?_
      (refine hK _ _ ?_; clear hK)
      refine WC.region rfl ?_
      refine wMI rfl rfl rfl rfl rfl ?_
      refine wG rfl rfl (g_add rfl (.mk rfl rfl) (.mk rfl rfl) (IntWalk.i64_in _ (by omega))) ?_
      refine wAI rfl rfl rfl rfl rfl ?_
      refine WL.nil ?_
      refine ⟨k + 1, (by repeat (first | exact trivial | refine ⟨rfl, ?_⟩)), .refl _, ⟨by omega, fun j hj => ?_⟩, by omega⟩
      by_cases e : j = k
      · rw [e]; exact decide_eq_false he
      · exact hq j (by omega)
  · obtain rfl : k = l.length := by omega
    refine WC.seq fun K hK => ?_
    refine WC.seq fun K hK => ?_
    refine WC.region rfl ?_
    refine wMI rfl rfl rfl rfl rfl ?_
    refine wMS rfl rfl rfl rfl rfl ?_
    refine wG rfl rfl (g_len rfl (.mk rfl rfl) rfl) ?_
    refine wG rfl rfl (g_lt rfl (.mk rfl rfl) (.mk rfl rfl) (decide_eq_false (by omega))) ?_
    refine WL.nil (hK _ _ ?_); clear hK
    refine WC.cond_false (.mk rfl rfl) ?_
    refine WC.exit ?_
    (clear hK; refine hK _ _ ?_; clear hK)
    refine WC.seq fun K hK => ?_
    refine WC.region rfl ?_
    refine wAB rfl rfl rfl rfl rfl ?_
    refine WL.nil (hK _ _ ?_); clear hK
    refine WC.ret ?_
    exact fun w' hw' => ⟨by rw [hasB, gfnd_all hq]; rfl, hw'.1⟩
structure Pred (w : World) (f : FuncId) (caps : List Value) (p : Nat → Bool) (n : Nat) : Prop where
  ok : callable Tryz.prog f = true
  run : ∀ i, i < n → ∀ w', Below w.heap.size w w' → Calls Tryz.prog f ([iv (i : Nat)] ++ caps).toArray w' fun e w2 => e = .returned (.bool (p i)) ∧ Below w'.heap.size w' w2
def numL (p : Nat → Bool) : Nat → List Nat
  | 0 => []
  | i + 1 => if p i then numL p i ++ [i] else numL p i
theorem numL_le (p : Nat → Bool) : ∀ n, (numL p n).length ≤ n
  | 0 => Nat.le_refl _
  | n + 1 => by unfold numL; have := numL_le p n; split <;> simp <;> omega
set_option maxHeartbeats 1000000 in
theorem numbers_n (f : FuncId) (caps : List Value) (p : Nat → Bool) (n : Nat) (w : World) (hp : Pred w f caps p n) (hn : n ≤ 1000) :
    Calls Tryz.prog 44 #[iv n, .func (.func f) #[] caps.toArray] w fun e w' => ∃ v' M, e = .returned v' ∧ H w M w' ∧ ∃ A c, v' = .slice A (numL p n).length c ∧ M = [vec A (numL p n).length c 3 1 (ldv (numL p n))] := by
  have hok := hp.ok
  refine calls_wc (args := [iv n, .func (.func f) #[] caps.toArray]) [4] [] Tryz.func44 rfl Tryz.ntmps44 rfl rfl rfl rfl (H.refl w) ?_
  refine WC.seq fun K hK => ?_
  refine WC.region rfl ?_
  refine wAS rfl rfl rfl rfl rfl ?_
  refine WL.nil (hK _ _ ?_); clear hK
  refine WC.seq fun K hK => ?_
  refine WC.region rfl ?_
  refine wAS rfl rfl rfl rfl rfl ?_
  refine WL.nil (hK _ _ ?_); clear hK
  refine WC.seq fun K hK => ?_
  refine WC.seq fun K hK => ?_
  refine WC.region rfl ?_
  refine wMI rfl rfl rfl rfl rfl ?_
  refine wMI rfl rfl rfl rfl rfl ?_
  refine WL.nil (hK _ _ ?_); clear hK
  refine WC.block ?_
  refine WC.nilvec 3 1 ?_
  refine WC.loopF3 (fun (i : Nat) (F : Option Addr) (fc : Nat) => [(8, iv i), (5, .slice F (numL p i).length fc), (7, iv n), (1, .func (.func f) #[] caps.toArray)]) (fun i F fc => [vec F (numL p i).length fc 3 1 (ldv (numL p i))]) (fun i _ _ => i ≤ n) (fun i _ _ => n - i) 0 none 0 (by repeat (first | exact trivial | refine ⟨rfl, ?_⟩)) (.refl _) (by omega) ?_
  intro i F fc U hi
  have hle := numL_le p i
  obtain ⟨g, hg⟩ : ∃ g, g = numL p i := ⟨_, rfl⟩
  rw [← hg] at hle ⊢
  by_cases hlt : i < n
  · have hr := hp.run i hlt
    cases hpi : p i with
    | true =>
      rw [hpi] at hr
      have hst : numL p (i + 1) = g ++ [i] := by rw [numL, hpi, ← hg]; rfl
      have hl1 : (g ++ [i]).length = g.length + 1 := by rw [List.length_append]; rfl
      refine WC.seq fun K hK => ?_
      refine WC.region rfl ?_
      refine wG rfl rfl (g_lt rfl (.mk rfl rfl) (.mk rfl rfl) (decide_eq_true (by omega))) ?_
      refine WL.nil (hK _ _ ?_); clear hK
      refine WC.seq fun K hK => ?_
      refine WC.cond_true (.mk rfl rfl) ?_
      refine WC.skip ?_
      (refine hK _ _ ?_; clear hK)
      refine WC.seq fun K hK => ?_
      refine WC.block ?_
      refine WC.seq fun K hK => ?_
      refine WC.region rfl ?_
      refine wMI rfl rfl rfl rfl rfl ?_
      refine wAI rfl rfl rfl rfl rfl ?_
      refine WL.nil (hK _ _ ?_); clear hK
      refine WC.seq fun K hK => ?_
      refine WC.region rfl ?_
      refine wG rfl rfl (g_move rfl (.mk (v := .func _ _ _) rfl rfl)) ?_
      refine wMI rfl rfl rfl rfl rfl ?_
      refine WL.want rfl (WL1.callVP rfl rfl (.mk rfl rfl) (by first | assumption | rfl) (.cons (.mk (v := .int _ _) rfl rfl) .nil) (fun w hw => hr w hw.1) ?_)
      refine WL.nil (hK _ _ ?_); clear hK
      refine WC.cond_true (.mk rfl rfl) ?_
      refine WC.region rfl ?_
      refine wMS rfl rfl rfl rfl rfl ?_
      refine wMI rfl rfl rfl rfl rfl ?_
      refine WL.want rfl (WL1.lit (cs := [_]) elI rfl rfl rfl (.cons (.mk (v := .int _ _) rfl rfl) .nil) rfl (by first | (simp [Value.cells]; done) | fail) rfl rfl (fun b16 => ?_))
      refine WL.want rfl (WL1.append elI rfl rfl (.mk rfl rfl) (.mk rfl rfl) (.tail (.head)) (fun w hw => Sl.of_vec hw (.head _)) (all1 rfl) (by unfold maxLen; omega) (by omega) (fun A17 c17 => ?_))
      refine wAS rfl rfl rfl rfl rfl ?_
      refine WL.nil (hK _ _ ?_); clear hK
      refine WC.region rfl ?_
      refine wG rfl rfl (g_add rfl (.mk rfl rfl) (.mk rfl rfl) (IntWalk.i64_in _ (by omega))) ?_
      refine wMI rfl rfl rfl rfl rfl ?_
      refine WL.nil ?_
      exact ⟨i + 1, A17, c17, by rw [hst, hl1]; exact (by repeat (first | exact trivial | refine ⟨rfl, ?_⟩)), by rw [hst, hl1, ← ldv_snoc]; exact Imp.pick (by repeat (first | exact .head | apply Take.tail)) (Imp.nil _), by omega, by omega⟩
    | false =>
      rw [hpi] at hr
      have hst : numL p (i + 1) = g := by rw [numL, hpi, ← hg]; rfl
      refine WC.seq fun K hK => ?_
      refine WC.region rfl ?_
      refine wG rfl rfl (g_lt rfl (.mk rfl rfl) (.mk rfl rfl) (decide_eq_true (by omega))) ?_
      refine WL.nil (hK _ _ ?_); clear hK
      refine WC.seq fun K hK => ?_
      refine WC.cond_true (.mk rfl rfl) ?_
      refine WC.skip ?_
      (refine hK _ _ ?_; clear hK)
      refine WC.seq fun K hK => ?_
      refine WC.block ?_
      refine WC.seq fun K hK => ?_
      refine WC.region rfl ?_
      refine wMI rfl rfl rfl rfl rfl ?_
      refine wAI rfl rfl rfl rfl rfl ?_
      refine WL.nil (hK _ _ ?_); clear hK
      refine WC.seq fun K hK => ?_
      refine WC.region rfl ?_
      refine wG rfl rfl (g_move rfl (.mk (v := .func _ _ _) rfl rfl)) ?_
      refine wMI rfl rfl rfl rfl rfl ?_
      refine WL.want rfl (WL1.callVP rfl rfl (.mk rfl rfl) (by first | assumption | rfl) (.cons (.mk (v := .int _ _) rfl rfl) .nil) (fun w hw => hr w hw.1) ?_)
      refine WL.nil (hK _ _ ?_); clear hK
      refine WC.cond_false (.mk rfl rfl) ?_
      refine WC.skip ?_
      (refine hK _ _ ?_; clear hK)
      refine WC.region rfl ?_
      refine wG rfl rfl (g_add rfl (.mk rfl rfl) (.mk rfl rfl) (IntWalk.i64_in _ (by omega))) ?_
      refine wMI rfl rfl rfl rfl rfl ?_
      refine WL.nil ?_
      exact ⟨i + 1, F, fc, by rw [hst]; exact (by repeat (first | exact trivial | refine ⟨rfl, ?_⟩)), by rw [hst]; exact .refl _, by omega, by omega⟩
  · obtain rfl : i = n := by omega
    refine WC.seq fun K hK => ?_
    refine WC.region rfl ?_
    refine wG rfl rfl (g_lt rfl (.mk rfl rfl) (.mk rfl rfl) (decide_eq_false (by omega))) ?_
    refine WL.nil (hK _ _ ?_); clear hK
    refine WC.seq fun K hK => ?_
    refine WC.cond_false (.mk rfl rfl) ?_
    refine WC.exit ?_
    (clear hK; refine hK _ _ ?_; clear hK)
    refine WC.seq fun K hK => ?_
    refine WC.region rfl ?_
    refine wMS rfl rfl rfl rfl rfl ?_
    refine wAS rfl rfl rfl rfl rfl ?_
    refine WL.nil (hK _ _ ?_); clear hK
    refine WC.ret ?_
    exact fun w' hw' => ⟨_, _, rfl, hw', F, fc, by rw [← hg]; rfl, by rw [← hg]⟩
end Go.Proofs.YtdcijljfgcjelaaGreat
namespace Go.Proofs.YtdcijljfgcjelaaGreat
set_option maxRecDepth 20000
open Go.RowKit
attribute [local irreducible] Calls
theorem vec_at {w0 w : World} {L : List Asrt} {A : Option Addr} {m c sz : Nat} {e : TypeId} {xs : List Value} (hw : H w0 L w) (hm : vec A m c e sz xs ∈ L) (h0 : 0 < m) : ∃ g, A = some ⟨g, 0, none⟩ := by
  rcases ((hw.2.in_ _ hm).1 : w.ownsRow 0 e sz (.slice A m c) m xs).2 with ⟨_, h⟩ | ⟨g, _, _, h, _⟩
  · omega
  · injection h with h; exact ⟨g, h⟩
theorem Imp.prefix_ {A : Option Addr} {m c sz k : Nat} {e : TypeId} {xs : List Value} (L : List Asrt) (hk : k ≤ m) : Imp (vec A m c e sz xs :: L) (vec A k c e sz (xs.take (k * sz)) :: L) where
  foot D hD b hb := by
    rcases List.mem_cons.1 hD with rfl | hD
    · exact ⟨_, .head _, hb⟩
    · exact ⟨D, .tail _ hD, hb⟩
  sep := fun ⟨h1, h2, h3, h4⟩ => by
    refine ⟨?_, h2, h3, h4⟩
    obtain ⟨hl, h⟩ := (h1 : World.ownsRow _ 0 e sz (.slice A m c) m xs)
    have hmul : k * sz ≤ m * sz := Nat.mul_le_mul_right sz hk
    refine ⟨by rw [List.length_take]; omega, ?_⟩
    rcases h with ⟨hv, h0⟩ | ⟨g, cap, cur, hv, q1, q2, q3, q4, q5, q6⟩
    · have hk0 : k = 0 := by omega
      subst hk0
      injection hv with e1 e2 e3
      exact .inl ⟨by rw [e1, e3], rfl⟩
    · injection hv with e1 e2 e3
      refine .inr ⟨g, cap, cur, by rw [e1, e3], q1, q2, by omega, q4, q5, ?_⟩
      rw [← q6, List.take_take, Nat.min_eq_left hmul]
set_option maxHeartbeats 1000000 in
theorem valid_i (z : Int) (w : World) : Calls Tryz.prog 43 #[iv z] w fun e w' => e = .returned (.bool (decide (4 ≤ z ∧ z ≤ 16))) ∧ Below w.heap.size w w' := by
  by_cases h1 : 3 < z
  · by_cases h2 : z ≤ 16
    · refine calls_wc (args := [iv z]) [2] [] Tryz.func43 rfl Tryz.ntmps43 rfl rfl rfl rfl (H.refl _) ?_
      refine WC.seq fun K hK => ?_
      refine WC.region rfl ?_
      refine wAB rfl rfl rfl rfl rfl ?_
      refine WL.nil (hK _ _ ?_); clear hK
      refine WC.seq fun K hK => ?_
      refine WC.region rfl ?_
      refine wMI rfl rfl rfl rfl rfl ?_
      refine wG rfl rfl (g_gt rfl (.mk rfl rfl) (.mk rfl rfl) (decide_eq_true (by omega))) ?_
      refine wMB rfl rfl rfl rfl rfl ?_
      refine WL.wantG rfl rfl rfl rfl (WL1.give rfl (g_move rfl (.mk (v := .int _ _) rfl rfl)) ?_)
      refine WL.wantG rfl rfl rfl rfl (WL1.give rfl (g_le rfl (.mk rfl rfl) (.mk rfl rfl) (decide_eq_true (by omega))) ?_)
      refine wG rfl rfl (g_pickT rfl (.mk rfl rfl) (.mk (v := .bool _) rfl rfl)) ?_
      refine wAB rfl rfl rfl rfl rfl ?_
      refine WL.nil (hK _ _ ?_); clear hK
      refine WC.ret ?_
      exact fun w' hw' => ⟨by rw [decide_eq_true (show 4 ≤ z ∧ z ≤ 16 by omega)]; rfl, hw'.1⟩
    · refine calls_wc (args := [iv z]) [2] [] Tryz.func43 rfl Tryz.ntmps43 rfl rfl rfl rfl (H.refl _) ?_
      refine WC.seq fun K hK => ?_
      refine WC.region rfl ?_
      refine wAB rfl rfl rfl rfl rfl ?_
      refine WL.nil (hK _ _ ?_); clear hK
      refine WC.seq fun K hK => ?_
      refine WC.region rfl ?_
      refine wMI rfl rfl rfl rfl rfl ?_
      refine wG rfl rfl (g_gt rfl (.mk rfl rfl) (.mk rfl rfl) (decide_eq_true (by omega))) ?_
      refine wMB rfl rfl rfl rfl rfl ?_
      refine WL.wantG rfl rfl rfl rfl (WL1.give rfl (g_move rfl (.mk (v := .int _ _) rfl rfl)) ?_)
      refine WL.wantG rfl rfl rfl rfl (WL1.give rfl (g_le rfl (.mk rfl rfl) (.mk rfl rfl) (decide_eq_false (by omega))) ?_)
      refine wG rfl rfl (g_pickT rfl (.mk rfl rfl) (.mk (v := .bool _) rfl rfl)) ?_
      refine wAB rfl rfl rfl rfl rfl ?_
      refine WL.nil (hK _ _ ?_); clear hK
      refine WC.ret ?_
      exact fun w' hw' => ⟨by rw [decide_eq_false fun h => h2 h.2]; rfl, hw'.1⟩
  · refine calls_wc (args := [iv z]) [2] [] Tryz.func43 rfl Tryz.ntmps43 rfl rfl rfl rfl (H.refl _) ?_
    refine WC.seq fun K hK => ?_
    refine WC.region rfl ?_
    refine wAB rfl rfl rfl rfl rfl ?_
    refine WL.nil (hK _ _ ?_); clear hK
    refine WC.seq fun K hK => ?_
    refine WC.region rfl ?_
    refine wMI rfl rfl rfl rfl rfl ?_
    refine wG rfl rfl (g_gt rfl (.mk rfl rfl) (.mk rfl rfl) (decide_eq_false (by omega))) ?_
    refine wMB rfl rfl rfl rfl rfl ?_
    refine WL.skipG rfl rfl rfl rfl rfl rfl ?_
    refine WL.skipG rfl rfl rfl rfl rfl rfl ?_
    refine wG rfl rfl (g_pickF rfl (.mk rfl rfl) (.mk (v := .bool _) rfl rfl)) ?_
    refine wAB rfl rfl rfl rfl rfl ?_
    refine WL.nil (hK _ _ ?_); clear hK
    refine WC.ret ?_
    exact fun w' hw' => ⟨by rw [decide_eq_false fun h => h1 (by omega)]; rfl, hw'.1⟩
set_option maxHeartbeats 1000000 in
theorem wide_i (z : Int) (w : World) : Calls Tryz.prog 32 #[iv z] w fun e w' => e = .returned (.bool (decide (4 ≤ z ∧ z ≤ 16))) ∧ Below w.heap.size w w' := by
  by_cases h1 : 4 ≤ z
  · by_cases h2 : z ≤ 16
    · refine calls_wc (args := [iv z]) [2] [] Tryz.func32 rfl Tryz.ntmps32 rfl rfl rfl rfl (H.refl _) ?_
      refine WC.seq fun K hK => ?_
      refine WC.region rfl ?_
      refine wAB rfl rfl rfl rfl rfl ?_
      refine WL.nil (hK _ _ ?_); clear hK
      refine WC.seq fun K hK => ?_
      refine WC.region rfl ?_
      refine wMI rfl rfl rfl rfl rfl ?_
      refine wG rfl rfl (g_ge rfl (.mk rfl rfl) (.mk rfl rfl) (decide_eq_true (by omega))) ?_
      refine wMB rfl rfl rfl rfl rfl ?_
      refine WL.wantG rfl rfl rfl rfl (WL1.give rfl (g_move rfl (.mk (v := .int _ _) rfl rfl)) ?_)
      refine WL.wantG rfl rfl rfl rfl (WL1.give rfl (g_le rfl (.mk rfl rfl) (.mk rfl rfl) (decide_eq_true (by omega))) ?_)
      refine wG rfl rfl (g_pickT rfl (.mk rfl rfl) (.mk (v := .bool _) rfl rfl)) ?_
      refine wAB rfl rfl rfl rfl rfl ?_
      refine WL.nil (hK _ _ ?_); clear hK
      refine WC.ret ?_
      exact fun w' hw' => ⟨by rw [decide_eq_true ⟨h1, h2⟩]; rfl, hw'.1⟩
    · refine calls_wc (args := [iv z]) [2] [] Tryz.func32 rfl Tryz.ntmps32 rfl rfl rfl rfl (H.refl _) ?_
      refine WC.seq fun K hK => ?_
      refine WC.region rfl ?_
      refine wAB rfl rfl rfl rfl rfl ?_
      refine WL.nil (hK _ _ ?_); clear hK
      refine WC.seq fun K hK => ?_
      refine WC.region rfl ?_
      refine wMI rfl rfl rfl rfl rfl ?_
      refine wG rfl rfl (g_ge rfl (.mk rfl rfl) (.mk rfl rfl) (decide_eq_true (by omega))) ?_
      refine wMB rfl rfl rfl rfl rfl ?_
      refine WL.wantG rfl rfl rfl rfl (WL1.give rfl (g_move rfl (.mk (v := .int _ _) rfl rfl)) ?_)
      refine WL.wantG rfl rfl rfl rfl (WL1.give rfl (g_le rfl (.mk rfl rfl) (.mk rfl rfl) (decide_eq_false (by omega))) ?_)
      refine wG rfl rfl (g_pickT rfl (.mk rfl rfl) (.mk (v := .bool _) rfl rfl)) ?_
      refine wAB rfl rfl rfl rfl rfl ?_
      refine WL.nil (hK _ _ ?_); clear hK
      refine WC.ret ?_
      exact fun w' hw' => ⟨by rw [decide_eq_false fun h => h2 h.2]; rfl, hw'.1⟩
  · refine calls_wc (args := [iv z]) [2] [] Tryz.func32 rfl Tryz.ntmps32 rfl rfl rfl rfl (H.refl _) ?_
    refine WC.seq fun K hK => ?_
    refine WC.region rfl ?_
    refine wAB rfl rfl rfl rfl rfl ?_
    refine WL.nil (hK _ _ ?_); clear hK
    refine WC.seq fun K hK => ?_
    refine WC.region rfl ?_
    refine wMI rfl rfl rfl rfl rfl ?_
    refine wG rfl rfl (g_ge rfl (.mk rfl rfl) (.mk rfl rfl) (decide_eq_false (by omega))) ?_
    refine wMB rfl rfl rfl rfl rfl ?_
    refine WL.skipG rfl rfl rfl rfl rfl rfl ?_
    refine WL.skipG rfl rfl rfl rfl rfl rfl ?_
    refine wG rfl rfl (g_pickF rfl (.mk rfl rfl) (.mk (v := .bool _) rfl rfl)) ?_
    refine wAB rfl rfl rfl rfl rfl ?_
    refine WL.nil (hK _ _ ?_); clear hK
    refine WC.ret ?_
    exact fun w' hw' => ⟨by rw [decide_eq_false fun h => h1 h.1]; rfl, hw'.1⟩
section
variable {w : World} {b : Nat} {B : Option Addr} {d : Nat} {bs : List Bool}
set_option maxHeartbeats 1000000 in
theorem pred_good (hc : w.cell? ⟨b, 0, none⟩ = some (.slice B bs.length d)) (hs : Sl w 1 (.slice B bs.length d) bs.length (bls bs)) : Pred w 147 [cellPtr (some ⟨b, 0, none⟩) 0] (fun i => nth bs i) bs.length := by
  refine ⟨by kernel_rfl, fun i hi w' hb => ?_⟩
  have hc' := kept_cell hb hc
  have hs' := hs.below hb
  have hgv := bls_get (l := bs) (k := i) hi
  refine calls_wc (args := [iv i, cellPtr (some ⟨b, 0, none⟩) 0]) [3] [] Tryz.func147 rfl Tryz.ntmps147 rfl rfl rfl rfl (H.refl _) ?_
  refine WC.seq fun K hK => ?_
  refine WC.region rfl ?_
  refine wAB rfl rfl rfl rfl rfl ?_
  refine WL.nil (hK _ _ ?_); clear hK
  refine WC.seq fun K hK => ?_
  refine WC.region rfl ?_
  refine wG rfl rfl (g_load rfl (.mk rfl rfl) rfl (rd_wb hc')) ?_
  refine wMI rfl rfl rfl rfl rfl ?_
  refine wG rfl rfl (g_indexAddr (sz := 1) rfl (.mk rfl rfl) (.mk rfl rfl) rfl rfl rfl (by omega) (fun _ _ => sl_some hs' (by omega))) ?_
  refine wG rfl rfl (g_load rfl (.mk rfl rfl) rfl (rd_sl hs' hgv)) ?_
  refine wAB rfl rfl rfl rfl rfl ?_
  refine WL.nil (hK _ _ ?_); clear hK
  refine WC.ret ?_
  exact fun w' hw' => ⟨rfl, hw'.1⟩
set_option maxHeartbeats 1000000 in
theorem pred_reads (hc : w.cell? ⟨b, 0, none⟩ = some (.slice B bs.length d)) (hs : Sl w 1 (.slice B bs.length d) bs.length (bls bs)) : Pred w 45 [cellPtr (some ⟨b, 0, none⟩) 0] (fun i => nth bs i) bs.length := by
  refine ⟨by kernel_rfl, fun i hi w' hb => ?_⟩
  have hc' := kept_cell hb hc
  have hs' := hs.below hb
  have hgv := bls_get (l := bs) (k := i) hi
  refine calls_wc (args := [iv i, cellPtr (some ⟨b, 0, none⟩) 0]) [3] [] Tryz.func45 rfl Tryz.ntmps45 rfl rfl rfl rfl (H.refl _) ?_
  refine WC.seq fun K hK => ?_
  refine WC.region rfl ?_
  refine wAB rfl rfl rfl rfl rfl ?_
  refine WL.nil (hK _ _ ?_); clear hK
  refine WC.seq fun K hK => ?_
  refine WC.region rfl ?_
  refine wG rfl rfl (g_load rfl (.mk rfl rfl) rfl (rd_wb hc')) ?_
  refine wMI rfl rfl rfl rfl rfl ?_
  refine wG rfl rfl (g_indexAddr (sz := 1) rfl (.mk rfl rfl) (.mk rfl rfl) rfl rfl rfl (by omega) (fun _ _ => sl_some hs' (by omega))) ?_
  refine wG rfl rfl (g_load rfl (.mk rfl rfl) rfl (rd_sl hs' hgv)) ?_
  refine wAB rfl rfl rfl rfl rfl ?_
  refine WL.nil (hK _ _ ?_); clear hK
  refine WC.ret ?_
  exact fun w' hw' => ⟨rfl, hw'.1⟩
set_option maxHeartbeats 1000000 in
theorem pred_first (hc : w.cell? ⟨b, 0, none⟩ = some (.slice B bs.length d)) (hs : Sl w 1 (.slice B bs.length d) bs.length (bls bs)) : Pred w 143 [cellPtr (some ⟨b, 0, none⟩) 0] (fun i => !nth bs i) bs.length := by
  refine ⟨by kernel_rfl, fun i hi w' hb => ?_⟩
  have hc' := kept_cell hb hc
  have hs' := hs.below hb
  have hgv := bls_get (l := bs) (k := i) hi
  refine calls_wc (args := [iv i, cellPtr (some ⟨b, 0, none⟩) 0]) [3] [] Tryz.func143 rfl Tryz.ntmps143 rfl rfl rfl rfl (H.refl _) ?_
  refine WC.seq fun K hK => ?_
  refine WC.region rfl ?_
  refine wAB rfl rfl rfl rfl rfl ?_
  refine WL.nil (hK _ _ ?_); clear hK
  refine WC.seq fun K hK => ?_
  refine WC.region rfl ?_
  refine wG rfl rfl (g_load rfl (.mk rfl rfl) rfl (rd_wb hc')) ?_
  refine wMI rfl rfl rfl rfl rfl ?_
  refine wG rfl rfl (g_indexAddr (sz := 1) rfl (.mk rfl rfl) (.mk rfl rfl) rfl rfl rfl (by omega) (fun _ _ => sl_some hs' (by omega))) ?_
  refine wG rfl rfl (g_load rfl (.mk rfl rfl) rfl (rd_sl hs' hgv)) ?_
  refine wG rfl rfl (g_not rfl (.mk rfl rfl)) ?_
  refine wAB rfl rfl rfl rfl rfl ?_
  refine WL.nil (hK _ _ ?_); clear hK
  refine WC.ret ?_
  exact fun w' hw' => ⟨rfl, hw'.1⟩
end
def dP (m : Nat) (T : List Int) (i : Nat) : Bool := decide (m ≤ i + 3) || hasB T i
def rP (m : Nat) (T : List Int) (i : Nat) : Bool := decide (i + 3 < m) && !hasB T i
set_option maxHeartbeats 1000000 in
theorem pred_delta {w : World} {b b2 m : Nat} {A : Option Addr} {c : Nat} {T : List Int} (hm : 4 ≤ m ∧ m ≤ 16) (hc : w.cell? ⟨b, 0, none⟩ = some (iv m)) (hc2 : w.cell? ⟨b2, 0, none⟩ = some (.slice A T.length c)) (hs : Sl w 1 (.slice A T.length c) T.length (ivs T)) : Pred w 97 [cellPtr (some ⟨b, 0, none⟩) 0, cellPtr (some ⟨b2, 0, none⟩) 0] (dP m T) m := by
  refine ⟨by kernel_rfl, fun i hi w' hb => ?_⟩
  have h1 := kept_cell hb hc
  have h2 := kept_cell hb hc2
  have hct := fun w2 hb2 => contains_e (.slice A T.length c) T i w2 ((hs.below hb).below (w' := w2) hb2)
  by_cases h : m ≤ i + 3
  · have hp : dP m T i = true := by rw [dP, decide_eq_true h]; rfl
    rw [hp]
    refine calls_wc (args := [iv i, cellPtr (some ⟨b, 0, none⟩) 0, cellPtr (some ⟨b2, 0, none⟩) 0]) [4] [] Tryz.func97 rfl Tryz.ntmps97 rfl rfl rfl rfl (H.refl _) ?_
    refine WC.seq fun K hK => ?_
    refine WC.region rfl ?_
    refine wAB rfl rfl rfl rfl rfl ?_
    refine WL.nil (hK _ _ ?_); clear hK
    refine WC.seq fun K hK => ?_
    refine WC.region rfl ?_
    refine wMI rfl rfl rfl rfl rfl ?_
    refine wG rfl rfl (g_load rfl (.mk rfl rfl) rfl (rd_wb h1)) ?_
    refine wG rfl rfl (g_sub rfl (.mk rfl rfl) (.mk rfl rfl) (IntWalk.i64_in _ (by omega))) ?_
    refine wG rfl rfl (g_ge rfl (.mk rfl rfl) (.mk rfl rfl) (decide_eq_true (by omega))) ?_
    refine wMB rfl rfl rfl rfl rfl ?_
    refine WL.skipG rfl rfl rfl rfl rfl rfl ?_
    refine WL.skipG rfl rfl rfl rfl rfl rfl ?_
    refine WL.skipG rfl rfl rfl rfl rfl rfl ?_
    refine wG rfl rfl (g_pickT rfl (.mk rfl rfl) (.mk (v := .bool _) rfl rfl)) ?_
    refine wAB rfl rfl rfl rfl rfl ?_
    refine WL.nil (hK _ _ ?_); clear hK
    refine WC.ret ?_
    exact fun w' hw' => ⟨rfl, hw'.1⟩
  · have hp : dP m T i = hasB T i := by rw [dP, decide_eq_false h]; rfl
    rw [hp]
    refine calls_wc (args := [iv i, cellPtr (some ⟨b, 0, none⟩) 0, cellPtr (some ⟨b2, 0, none⟩) 0]) [4] [] Tryz.func97 rfl Tryz.ntmps97 rfl rfl rfl rfl (H.refl _) ?_
    refine WC.seq fun K hK => ?_
    refine WC.region rfl ?_
    refine wAB rfl rfl rfl rfl rfl ?_
    refine WL.nil (hK _ _ ?_); clear hK
    refine WC.seq fun K hK => ?_
    refine WC.region rfl ?_
    refine wMI rfl rfl rfl rfl rfl ?_
    refine wG rfl rfl (g_load rfl (.mk rfl rfl) rfl (rd_wb h1)) ?_
    refine wG rfl rfl (g_sub rfl (.mk rfl rfl) (.mk rfl rfl) (IntWalk.i64_in _ (by omega))) ?_
    refine wG rfl rfl (g_ge rfl (.mk rfl rfl) (.mk rfl rfl) (decide_eq_false (by omega))) ?_
    refine wMB rfl rfl rfl rfl rfl ?_
    refine WL.wantG rfl rfl rfl rfl (WL1.give rfl (g_load rfl (.mk rfl rfl) rfl (rd_wb h2)) ?_)
    refine WL.wantG rfl rfl rfl rfl (WL1.give rfl (g_move rfl (.mk (v := .int _ _) rfl rfl)) ?_)
    refine WL.wantG rfl rfl rfl rfl (WL1.callP rfl rfl rfl (.cons (.mk (v := .slice _ _ _) rfl rfl) (.cons (.mk (v := .int _ _) rfl rfl) .nil)) (fun w hw => hct w hw.1) ?_)
    refine wG rfl rfl (g_pickF rfl (.mk rfl rfl) (.mk (v := .bool _) rfl rfl)) ?_
    refine wAB rfl rfl rfl rfl rfl ?_
    refine WL.nil (hK _ _ ?_); clear hK
    refine WC.ret ?_
    exact fun w' hw' => ⟨rfl, hw'.1⟩
set_option maxHeartbeats 1000000 in
theorem pred_recompute {w : World} {b b2 m : Nat} {A : Option Addr} {c : Nat} {T : List Int} (hm : 4 ≤ m ∧ m ≤ 16) (hc : w.cell? ⟨b, 0, none⟩ = some (iv m)) (hc2 : w.cell? ⟨b2, 0, none⟩ = some (.slice A T.length c)) (hs : Sl w 1 (.slice A T.length c) T.length (ivs T)) : Pred w 100 [cellPtr (some ⟨b, 0, none⟩) 0, cellPtr (some ⟨b2, 0, none⟩) 0] (rP m T) m := by
  refine ⟨by kernel_rfl, fun i hi w' hb => ?_⟩
  have h1 := kept_cell hb hc
  have h2 := kept_cell hb hc2
  have hct := fun w2 hb2 => contains_e (.slice A T.length c) T i w2 ((hs.below hb).below (w' := w2) hb2)
  by_cases h : i + 3 < m
  · have hp : rP m T i = !hasB T i := by rw [rP, decide_eq_true h]; rfl
    rw [hp]
    refine calls_wc (args := [iv i, cellPtr (some ⟨b, 0, none⟩) 0, cellPtr (some ⟨b2, 0, none⟩) 0]) [4] [] Tryz.func100 rfl Tryz.ntmps100 rfl rfl rfl rfl (H.refl _) ?_
    refine WC.seq fun K hK => ?_
    refine WC.region rfl ?_
    refine wAB rfl rfl rfl rfl rfl ?_
    refine WL.nil (hK _ _ ?_); clear hK
    refine WC.seq fun K hK => ?_
    refine WC.region rfl ?_
    refine wMI rfl rfl rfl rfl rfl ?_
    refine wG rfl rfl (g_load rfl (.mk rfl rfl) rfl (rd_wb h1)) ?_
    refine wG rfl rfl (g_sub rfl (.mk rfl rfl) (.mk rfl rfl) (IntWalk.i64_in _ (by omega))) ?_
    refine wG rfl rfl (g_lt rfl (.mk rfl rfl) (.mk rfl rfl) (decide_eq_true (by omega))) ?_
    refine wMB rfl rfl rfl rfl rfl ?_
    refine WL.wantG rfl rfl rfl rfl (WL1.give rfl (g_load rfl (.mk rfl rfl) rfl (rd_wb h2)) ?_)
    refine WL.wantG rfl rfl rfl rfl (WL1.give rfl (g_move rfl (.mk (v := .int _ _) rfl rfl)) ?_)
    refine WL.wantG rfl rfl rfl rfl (WL1.callP rfl rfl rfl (.cons (.mk (v := .slice _ _ _) rfl rfl) (.cons (.mk (v := .int _ _) rfl rfl) .nil)) (fun w hw => hct w hw.1) ?_)
    refine WL.wantG rfl rfl rfl rfl (WL1.give rfl (g_not rfl (.mk rfl rfl)) ?_)
    refine wG rfl rfl (g_pickT rfl (.mk rfl rfl) (.mk (v := .bool _) rfl rfl)) ?_
    refine wAB rfl rfl rfl rfl rfl ?_
    refine WL.nil (hK _ _ ?_); clear hK
    refine WC.ret ?_
    exact fun w' hw' => ⟨rfl, hw'.1⟩
  · have hp : rP m T i = false := by rw [rP, decide_eq_false h]; rfl
    rw [hp]
    refine calls_wc (args := [iv i, cellPtr (some ⟨b, 0, none⟩) 0, cellPtr (some ⟨b2, 0, none⟩) 0]) [4] [] Tryz.func100 rfl Tryz.ntmps100 rfl rfl rfl rfl (H.refl _) ?_
    refine WC.seq fun K hK => ?_
    refine WC.region rfl ?_
    refine wAB rfl rfl rfl rfl rfl ?_
    refine WL.nil (hK _ _ ?_); clear hK
    refine WC.seq fun K hK => ?_
    refine WC.region rfl ?_
    refine wMI rfl rfl rfl rfl rfl ?_
    refine wG rfl rfl (g_load rfl (.mk rfl rfl) rfl (rd_wb h1)) ?_
    refine wG rfl rfl (g_sub rfl (.mk rfl rfl) (.mk rfl rfl) (IntWalk.i64_in _ (by omega))) ?_
    refine wG rfl rfl (g_lt rfl (.mk rfl rfl) (.mk rfl rfl) (decide_eq_false (by omega))) ?_
    refine wMB rfl rfl rfl rfl rfl ?_
    refine WL.skipG rfl rfl rfl rfl rfl rfl ?_
    refine WL.skipG rfl rfl rfl rfl rfl rfl ?_
    refine WL.skipG rfl rfl rfl rfl rfl rfl ?_
    refine WL.skipG rfl rfl rfl rfl rfl rfl ?_
    refine wG rfl rfl (g_pickF rfl (.mk rfl rfl) (.mk (v := .bool _) rfl rfl)) ?_
    refine wAB rfl rfl rfl rfl rfl ?_
    refine WL.nil (hK _ _ ?_); clear hK
    refine WC.ret ?_
    exact fun w' hw' => ⟨rfl, hw'.1⟩
set_option maxHeartbeats 1000000 in
theorem indexf_e (v : Value) (l : List Nat) (f : FuncId) (caps : List Value) (p : Nat → Bool) (n : Nat) (w : World) (hv : Sl w 1 v l.length (ldv l)) (hp : Pred w f caps p n) (hl : ∀ k, k < l.length → nth l k < n) :
    Calls Tryz.prog 178 #[v, .func (.func f) #[] caps.toArray] w fun e w' => e = .returned (iv (gfz (gfnd (fun k => p (nth l k)) l.length))) ∧ Below w.heap.size w w' := by
  obtain ⟨A, cc, rfl, hcc, hm, hs⟩ := hv.open_
  have hok := hp.ok
  unfold maxLen at hm
  refine calls_wc (args := [.slice A l.length cc, .func (.func f) #[] caps.toArray]) [4] [] Tryz.func178 rfl Tryz.ntmps178 rfl rfl rfl rfl (H.refl _) ?_
  refine WC.seq fun K hK => ?_
  refine WC.region rfl ?_
  refine wAI rfl rfl rfl rfl rfl ?_
  refine WL.nil (hK _ _ ?_); clear hK
  refine WC.seq fun K hK => ?_
  refine WC.seq fun K hK => ?_
  refine WC.region rfl ?_
  refine wMS rfl rfl rfl rfl rfl ?_
  refine wG rfl rfl (g_len rfl (.mk rfl rfl) rfl) ?_
  refine wMI rfl rfl rfl rfl rfl ?_
  refine WL.nil (hK _ _ ?_); clear hK
  refine WC.block ?_
  refine WC.loopF (fun k : Nat => [(8, iv k), (7, iv l.length), (0, .slice A l.length cc), (1, .func (.func f) #[] caps.toArray)]) (fun _ => []) (fun k => k ≤ l.length ∧ ∀ j, j < k → p (nth l j) = false) (fun k => l.length - k) 0 (by repeat (first | exact trivial | refine ⟨rfl, ?_⟩)) (Imp.nil _) ⟨by omega, fun j hj => absurd hj (by omega)⟩ ?_
  rintro k U ⟨hk, hq⟩
  by_cases hlt : k < l.length
  · have hgv := ldv_get hlt
    have hr := hp.run (nth l k) (hl k hlt)
    cases hz : p (nth l k) with
    | false =>
      rw [hz] at hr
      refine WC.seq fun K hK => ?_
      refine WC.region rfl ?_
      refine wG rfl rfl (g_lt rfl (.mk rfl rfl) (.mk rfl rfl) (decide_eq_true (by omega))) ?_
      refine WL.nil (hK _ _ ?_); clear hK
      refine WC.seq fun K hK => ?_
      refine WC.cond_true (.mk rfl rfl) ?_
      refine WC.skip ?_
      (refine hK _ _ ?_; clear hK)
      refine WC.seq fun K hK => ?_
      refine WC.block ?_
      refine WC.seq fun K hK => ?_
      refine WC.region rfl ?_
      refine wMI rfl rfl rfl rfl rfl ?_
      refine wAI rfl rfl rfl rfl rfl ?_
      refine WL.nil (hK _ _ ?_); clear hK
      refine WC.seq fun K hK => ?_
      refine WC.region rfl ?_
      refine wG rfl rfl (g_move rfl (.mk (v := .func _ _ _) rfl rfl)) ?_
      refine wMS rfl rfl rfl rfl rfl ?_
      refine wMI rfl rfl rfl rfl rfl ?_
      refine wG rfl rfl (g_indexAddr (sz := 1) rfl (.mk rfl rfl) (.mk rfl rfl) rfl rfl rfl (by omega) (fun _ _ => sl_some hs (by omega))) ?_
      refine wG rfl rfl (g_load rfl (.mk rfl rfl) rfl (rd_sl hs hgv)) ?_
      refine WL.want rfl (WL1.callVP rfl rfl (.mk rfl rfl) (by first | assumption | rfl) (.cons (.mk (v := .int _ _) rfl rfl) .nil) (fun w hw => hr w hw.1) ?_)
      refine WL.nil (hK _ _ ?_); clear hK
      refine WC.cond_false (.mk rfl rfl) ?_
      refine WC.skip ?_
      (refine hK _ _ ?_; clear hK)
      refine WC.region rfl ?_
      refine wG rfl rfl (g_add rfl (.mk rfl rfl) (.mk rfl rfl) (IntWalk.i64_in _ (by omega))) ?_
      refine wMI rfl rfl rfl rfl rfl ?_
      refine WL.nil ?_
      refine ⟨k + 1, (by repeat (first | exact trivial | refine ⟨rfl, ?_⟩)), .refl _, ⟨by omega, fun j hj => ?_⟩, by omega⟩
      by_cases e : j = k
      · rw [e]; exact hz
      · exact hq j (by omega)
    | true =>
      rw [hz] at hr
      refine WC.seq fun K hK => ?_
      refine WC.region rfl ?_
      refine wG rfl rfl (g_lt rfl (.mk rfl rfl) (.mk rfl rfl) (decide_eq_true (by omega))) ?_
      refine WL.nil (hK _ _ ?_); clear hK
      refine WC.seq fun K hK => ?_
      refine WC.cond_true (.mk rfl rfl) ?_
      refine WC.skip ?_
      (refine hK _ _ ?_; clear hK)
      refine WC.seq fun K hK => ?_
      refine WC.block ?_
      refine WC.seq fun K hK => ?_
      refine WC.region rfl ?_
      refine wMI rfl rfl rfl rfl rfl ?_
      refine wAI rfl rfl rfl rfl rfl ?_
      refine WL.nil (hK _ _ ?_); clear hK
      refine WC.seq fun K hK => ?_
      refine WC.region rfl ?_
      refine wG rfl rfl (g_move rfl (.mk (v := .func _ _ _) rfl rfl)) ?_
      refine wMS rfl rfl rfl rfl rfl ?_
      refine wMI rfl rfl rfl rfl rfl ?_
      refine wG rfl rfl (g_indexAddr (sz := 1) rfl (.mk rfl rfl) (.mk rfl rfl) rfl rfl rfl (by omega) (fun _ _ => sl_some hs (by omega))) ?_
      refine wG rfl rfl (g_load rfl (.mk rfl rfl) rfl (rd_sl hs hgv)) ?_
      refine WL.want rfl (WL1.callVP rfl rfl (.mk rfl rfl) (by first | assumption | rfl) (.cons (.mk (v := .int _ _) rfl rfl) .nil) (fun w hw => hr w hw.1) ?_)
      refine WL.nil (hK _ _ ?_); clear hK
      refine WC.cond_true (.mk rfl rfl) ?_
      refine WC.seq fun K hK => ?_
      refine WC.region rfl ?_
      refine wMI rfl rfl rfl rfl rfl ?_
      refine wAI rfl rfl rfl rfl rfl ?_
      refine WL.nil (hK _ _ ?_); clear hK
      refine WC.ret ?_
      exact fun w' hw' => ⟨by rw [gfnd_eq (p := fun k => p (nth l k)) hlt hz hq]; rfl, hw'.1⟩
  · obtain rfl : k = l.length := by omega
    refine WC.seq fun K hK => ?_
    refine WC.region rfl ?_
    refine wG rfl rfl (g_lt rfl (.mk rfl rfl) (.mk rfl rfl) (decide_eq_false (by omega))) ?_
    refine WL.nil (hK _ _ ?_); clear hK
    refine WC.seq fun K hK => ?_
    refine WC.cond_false (.mk rfl rfl) ?_
    refine WC.exit ?_
    (clear hK; refine hK _ _ ?_; clear hK)
    refine WC.seq fun K hK => ?_
    refine WC.region rfl ?_
    refine wAI rfl rfl rfl rfl rfl ?_
    refine WL.nil (hK _ _ ?_); clear hK
    refine WC.ret ?_
    exact fun w' hw' => ⟨by rw [gfnd_all hq]; rfl, hw'.1⟩
set_option maxHeartbeats 1000000 in
theorem containsf_e (v : Value) (l : List Nat) (f : FuncId) (caps : List Value) (p : Nat → Bool) (n : Nat) (w : World) (hv : Sl w 1 v l.length (ldv l)) (hp : Pred w f caps p n) (hl : ∀ k, k < l.length → nth l k < n) :
    Calls Tryz.prog 146 #[v, .func (.func f) #[] caps.toArray] w fun e w' => e = .returned (.bool (gfnd (fun k => p (nth l k)) l.length).isSome) ∧ Below w.heap.size w w' := by
  have hix := fun w' (hb : Below w.heap.size w w') => indexf_e v l f caps p n w' (hv.below hb) ⟨hp.ok, fun i hi w2 hb2 => hp.run i hi w2 (hb.trans (hb2.mono hb.size))⟩ hl
  obtain ⟨o, ho⟩ : ∃ o, o = gfnd (fun k => p (nth l k)) l.length := ⟨_, rfl⟩
  rw [← ho] at hix ⊢
  have hb := gfz_ge o
  refine calls_wc (args := [v, .func (.func f) #[] caps.toArray]) [4] [] Tryz.func146 rfl Tryz.ntmps146 rfl rfl rfl rfl (H.refl _) ?_
  refine WC.seq fun K hK => ?_
  refine WC.region rfl ?_
  refine wAB rfl rfl rfl rfl rfl ?_
  refine WL.nil (hK _ _ ?_); clear hK
  refine WC.seq fun K hK => ?_
  refine WC.region rfl ?_
  refine wG rfl rfl (g_move rfl (.mk rfl (by conv => lhs; whnf))) ?_
  refine wG rfl rfl (g_move rfl (.mk (v := .func _ _ _) rfl rfl)) ?_
  refine WL.want rfl (WL1.callP rfl rfl rfl (.cons (.mk rfl (by conv => lhs; whnf)) (.cons (.mk (v := .func _ _ _) rfl rfl) .nil)) (fun w hw => hix w hw.1) ?_)
  refine wG rfl rfl (g_ge rfl (.mk rfl rfl) (.mk rfl rfl) hb) ?_
  refine wAB rfl rfl rfl rfl rfl ?_
  refine WL.nil (hK _ _ ?_); clear hK
  refine WC.ret ?_
  exact fun w' hw' => ⟨rfl, hw'.1⟩
def goodL (l : List Nat) (bs : List Bool) : Bool := !(gfnd (fun k => nth bs (nth l k)) l.length).isSome
set_option maxHeartbeats 1000000 in
theorem good_e (vl vb : Value) (l : List Nat) (bs : List Bool) (w : World) (hv : Sl w 1 vl l.length (ldv l)) (hb : Sl w 1 vb bs.length (bls bs)) (hl : ∀ k, k < l.length → nth l k < bs.length) :
    Calls Tryz.prog 99 #[vl, vb] w fun e w' => e = .returned (.bool (goodL l bs)) ∧ Below w.heap.size w w' := by
  obtain ⟨B, d, rfl, hcd, hmd, hsb⟩ := hb.open_
  obtain ⟨A, c, rfl, hcc, hm, hs⟩ := hv.open_
  refine calls_wc (args := [.slice A l.length c, .slice B bs.length d]) [4] [] Tryz.func99 rfl Tryz.ntmps99 rfl rfl rfl rfl (H.refl _) ?_
  refine WC.seq fun K hK => ?_
  refine WC.region rfl ?_
  refine WL.want rfl (WL1.box rfl rfl (.mk (v := .slice _ _ _) rfl rfl) rfl (fun b3 => ?_))
  refine wAB rfl rfl rfl rfl rfl ?_
  refine WL.nil (hK _ _ ?_); clear hK
  refine WC.seq fun K hK => ?_
  refine WC.region rfl ?_
  refine wMS rfl rfl rfl rfl rfl ?_
  refine wG rfl rfl (g_makeFunc rfl (.cons (.mk (v := cellPtr _ _) rfl rfl) .nil)) ?_
  refine WL.want rfl (WL1.callP rfl rfl rfl (.cons (.mk (v := .slice _ _ _) rfl rfl) (.cons (.mk (v := .func _ _ _) rfl rfl) .nil)) (fun w hw => containsf_e _ l _ [cellPtr (some ⟨b3, 0, none⟩) 0] (fun i => nth bs i) bs.length w (hs.below hw.1) (pred_good (cell_pt hw (by repeat (first | exact .head _ | apply List.Mem.tail)) rfl) (hsb.below hw.1)) hl) ?_)
  refine wG rfl rfl (g_not rfl (.mk rfl rfl)) ?_
  refine wAB rfl rfl rfl rfl rfl ?_
  refine WL.nil (hK _ _ ?_); clear hK
  refine WC.ret ?_
  exact fun w' hw' => ⟨rfl, hw'.1⟩
end Go.Proofs.YtdcijljfgcjelaaGreat
namespace Go.Proofs.YtdcijljfgcjelaaGreat
set_option maxRecDepth 20000
open Go.RowKit
attribute [local irreducible] Calls
theorem numL_lt (p : Nat → Bool) : ∀ n, ∀ k, k < (numL p n).length → nth (numL p n) k < n
  | 0, k, h => absurd h (by simp [numL])
  | n + 1, k, h => by
    have ih := numL_lt p n
    by_cases hp : p n = true
    · have e : numL p (n + 1) = numL p n ++ [n] := by rw [numL, if_pos hp]
      rw [e, List.length_append] at h
      simp only [List.length_cons, List.length_nil] at h
      rw [e]
      by_cases hk : k < (numL p n).length
      · have : nth (numL p n ++ [n]) k = nth (numL p n) k := by unfold nth; simp [List.getD_eq_getElem?_getD, List.getElem?_append_left hk]
        rw [this]; have := ih k hk; omega
      · have : nth (numL p n ++ [n]) k = n := by unfold nth; rw [List.getD_eq_getElem?_getD, List.getElem?_append_right (by omega), show k - (numL p n).length = 0 from by omega]; rfl
        rw [this]; omega
    · have e : numL p (n + 1) = numL p n := by rw [numL, if_neg hp]
      rw [e] at h ⊢
      have := ih k h; omega
section
variable {w : World} {A B : Option Addr} {c d : Nat} {T : List Int} {bs : List Bool}
set_option maxHeartbeats 1000000 in
theorem delta_n (hm : 4 ≤ bs.length ∧ bs.length ≤ 16) (hs : Sl w 1 (.slice A T.length c) T.length (ivs T)) (hsb : Sl w 1 (.slice B bs.length d) bs.length (bls bs)) :
    Calls Tryz.prog 50 #[iv bs.length, .slice A T.length c, .slice B bs.length d] w fun e w' => ∃ v' M, e = .returned v' ∧ H w M w' ∧ ∃ A1 c1, v' = .tuple #[.slice A1 (numL (dP bs.length T) bs.length).length c1, .bool (goodL (numL (dP bs.length T) bs.length) bs)] ∧ M = [vec A1 (numL (dP bs.length T) bs.length).length c1 3 1 (ldv (numL (dP bs.length T) bs.length))] := by
  have hlt := numL_lt (dP bs.length T) bs.length
  refine calls_wc (args := [iv bs.length, .slice A T.length c, .slice B bs.length d]) [6, 7] [] Tryz.func50 rfl Tryz.ntmps50 rfl rfl rfl rfl (H.refl _) ?_
  refine WC.seq fun K hK => ?_
  refine WC.region rfl ?_
  refine WL.want rfl (WL1.box rfl rfl (.mk (v := .int _ _) rfl rfl) rfl (fun b3 => ?_))
  refine WL.want rfl (WL1.box rfl rfl (.mk (v := .slice _ _ _) rfl rfl) rfl (fun b4 => ?_))
  refine wAS rfl rfl rfl rfl rfl ?_
  refine wAB rfl rfl rfl rfl rfl ?_
  refine WL.nil (hK _ _ ?_); clear hK
  refine WC.seq fun K hK => ?_
  refine WC.region rfl ?_
  refine wG rfl rfl (g_load rfl (.mk rfl rfl) rfl (rd_pt (by repeat (first | exact .head _ | apply List.Mem.tail)) rfl)) ?_
  refine wG rfl rfl (g_makeFunc rfl (.cons (.mk (v := cellPtr _ _) rfl rfl) (.cons (.mk (v := cellPtr _ _) rfl rfl) .nil))) ?_
  (refine WL.want rfl (WL1.callN rfl rfl rfl (.cons (.mk (v := .int _ _) rfl rfl) (.cons (.mk (v := .func _ _ _) rfl rfl) .nil)) (fun w hw => numbers_n _ [cellPtr (some ⟨b3, 0, none⟩) 0, cellPtr (some ⟨b4, 0, none⟩) 0] (dP bs.length T) bs.length w (pred_delta hm (cell_pt hw (by repeat (first | exact .head _ | apply List.Mem.tail)) rfl) (cell_pt hw (by repeat (first | exact .head _ | apply List.Mem.tail)) rfl) (hs.below hw.1)) (by omega)) ?_); rintro _ _ ⟨A1, c1, rfl, rfl⟩)
  refine wAS rfl rfl rfl rfl rfl ?_
  refine WL.nil (hK _ _ ?_); clear hK
  refine WC.seq fun K hK => ?_
  refine WC.region rfl ?_
  refine wMS rfl rfl rfl rfl rfl ?_
  refine wMS rfl rfl rfl rfl rfl ?_
  refine wMS rfl rfl rfl rfl rfl ?_
  refine WL.want rfl (WL1.callP rfl rfl rfl (.cons (.mk (v := .slice _ _ _) rfl rfl) (.cons (.mk (v := .slice _ _ _) rfl rfl) .nil)) (fun w hw => good_e _ _ (numL (dP bs.length T) bs.length) bs w (Sl.of_vec hw (by repeat (first | exact .head _ | apply List.Mem.tail))) (hsb.below hw.1) hlt) ?_)
  refine wAS rfl rfl rfl rfl rfl ?_
  refine wAB rfl rfl rfl rfl rfl ?_
  refine WL.nil (hK _ _ ?_); clear hK
  refine WC.ret ?_
  exact fun w' hw' => ⟨_, _, rfl, hw'.sub (.cons_cons _ (.cons _ (.cons _ .slnil))), A1, c1, rfl, rfl⟩
set_option maxHeartbeats 1000000 in
theorem recompute_n (hm : 4 ≤ bs.length ∧ bs.length ≤ 16) (hs : Sl w 1 (.slice A T.length c) T.length (ivs T)) (hsb : Sl w 1 (.slice B bs.length d) bs.length (bls bs)) :
    Calls Tryz.prog 51 #[iv bs.length, .slice A T.length c, .slice B bs.length d] w fun e w' => ∃ v' M, e = .returned v' ∧ H w M w' ∧ ∃ A1 c1, v' = .tuple #[.slice A1 (numL (rP bs.length T) bs.length).length c1, .bool (goodL (numL (rP bs.length T) bs.length) bs)] ∧ M = [vec A1 (numL (rP bs.length T) bs.length).length c1 3 1 (ldv (numL (rP bs.length T) bs.length))] := by
  have hlt := numL_lt (rP bs.length T) bs.length
  refine calls_wc (args := [iv bs.length, .slice A T.length c, .slice B bs.length d]) [6, 7] [] Tryz.func51 rfl Tryz.ntmps51 rfl rfl rfl rfl (H.refl _) ?_
  refine WC.seq fun K hK => ?_
  refine WC.region rfl ?_
  refine WL.want rfl (WL1.box rfl rfl (.mk (v := .int _ _) rfl rfl) rfl (fun b3 => ?_))
  refine WL.want rfl (WL1.box rfl rfl (.mk (v := .slice _ _ _) rfl rfl) rfl (fun b4 => ?_))
  refine wAS rfl rfl rfl rfl rfl ?_
  refine wAB rfl rfl rfl rfl rfl ?_
  refine WL.nil (hK _ _ ?_); clear hK
  refine WC.seq fun K hK => ?_
  refine WC.region rfl ?_
  refine wG rfl rfl (g_load rfl (.mk rfl rfl) rfl (rd_pt (by repeat (first | exact .head _ | apply List.Mem.tail)) rfl)) ?_
  refine wG rfl rfl (g_makeFunc rfl (.cons (.mk (v := cellPtr _ _) rfl rfl) (.cons (.mk (v := cellPtr _ _) rfl rfl) .nil))) ?_
  (refine WL.want rfl (WL1.callN rfl rfl rfl (.cons (.mk (v := .int _ _) rfl rfl) (.cons (.mk (v := .func _ _ _) rfl rfl) .nil)) (fun w hw => numbers_n _ [cellPtr (some ⟨b3, 0, none⟩) 0, cellPtr (some ⟨b4, 0, none⟩) 0] (rP bs.length T) bs.length w (pred_recompute hm (cell_pt hw (by repeat (first | exact .head _ | apply List.Mem.tail)) rfl) (cell_pt hw (by repeat (first | exact .head _ | apply List.Mem.tail)) rfl) (hs.below hw.1)) (by omega)) ?_); rintro _ _ ⟨A1, c1, rfl, rfl⟩)
  refine wAS rfl rfl rfl rfl rfl ?_
  refine WL.nil (hK _ _ ?_); clear hK
  refine WC.seq fun K hK => ?_
  refine WC.region rfl ?_
  refine wMS rfl rfl rfl rfl rfl ?_
  refine wMS rfl rfl rfl rfl rfl ?_
  refine wMS rfl rfl rfl rfl rfl ?_
  refine WL.want rfl (WL1.callP rfl rfl rfl (.cons (.mk (v := .slice _ _ _) rfl rfl) (.cons (.mk (v := .slice _ _ _) rfl rfl) .nil)) (fun w hw => good_e _ _ (numL (rP bs.length T) bs.length) bs w (Sl.of_vec hw (by repeat (first | exact .head _ | apply List.Mem.tail))) (hsb.below hw.1) hlt) ?_)
  refine wAS rfl rfl rfl rfl rfl ?_
  refine wAB rfl rfl rfl rfl rfl ?_
  refine WL.nil (hK _ _ ?_); clear hK
  refine WC.ret ?_
  exact fun w' hw' => ⟨_, _, rfl, hw'.sub (.cons_cons _ (.cons _ (.cons _ .slnil))), A1, c1, rfl, rfl⟩
def gP (bs : List Bool) (i : Nat) : Bool := !nth bs i
set_option maxHeartbeats 1000000 in
theorem first_n {N : Nat} (hN : bs.length = N + 3) (h1 : 1 ≤ N) (h2 : N ≤ 13) (hg : N ≤ (numL (gP bs) bs.length).length) (hsb : Sl w 1 (.slice B bs.length d) bs.length (bls bs)) :
    Calls Tryz.prog 94 #[iv bs.length, .slice A T.length c, .slice B bs.length d] w fun e w' => ∃ v' M, e = .returned v' ∧ H w M w' ∧ ∃ A1 c1, v' = .tuple #[.slice A1 N c1, .bool true] ∧ M = [vec A1 N c1 3 1 (ldv ((numL (gP bs) bs.length).take N))] := by
  have hsub : IntKind.i64.wrap ((bs.length : Int) - 3) = (N : Int) := by rw [IntWalk.i64_in _ (by omega)]; omega
  refine calls_wc (args := [iv bs.length, .slice A T.length c, .slice B bs.length d]) [6, 7] [] Tryz.func94 rfl Tryz.ntmps94 rfl rfl rfl rfl (H.refl _) ?_
  refine WC.seq fun K hK => ?_
  refine WC.region rfl ?_
  refine WL.want rfl (WL1.box rfl rfl (.mk (v := .slice _ _ _) rfl rfl) rfl (fun b5 => ?_))
  refine wAS rfl rfl rfl rfl rfl ?_
  refine wAB rfl rfl rfl rfl rfl ?_
  refine WL.nil (hK _ _ ?_); clear hK
  refine WC.seq fun K hK => ?_
  refine WC.region rfl ?_
  refine wMI rfl rfl rfl rfl rfl ?_
  refine wG rfl rfl (g_makeFunc rfl (.cons (.mk (v := cellPtr _ _) rfl rfl) .nil)) ?_
  (refine WL.want rfl (WL1.callN rfl rfl rfl (.cons (.mk (v := .int _ _) rfl rfl) (.cons (.mk (v := .func _ _ _) rfl rfl) .nil)) (fun w hw => numbers_n _ [cellPtr (some ⟨b5, 0, none⟩) 0] (gP bs) bs.length w (pred_first (cell_pt hw (by repeat (first | exact .head _ | apply List.Mem.tail)) rfl) (hsb.below hw.1)) (by omega)) ?_); rintro _ _ ⟨A1, c1, rfl, rfl⟩)
  refine wAS rfl rfl rfl rfl rfl ?_
  refine WL.nil (hK _ _ ?_); clear hK
  refine WC.seq fun K hK => ?_
  refine WC.seq fun K hK => ?_
  refine WC.region rfl ?_
  refine wMS rfl rfl rfl rfl rfl ?_
  refine wG rfl rfl (g_len rfl (.mk rfl rfl) rfl) ?_
  refine wMI rfl rfl rfl rfl rfl ?_
  refine wG rfl rfl (g_sub rfl (.mk rfl rfl) (.mk rfl rfl) hsub) ?_
  refine wG rfl rfl (g_lt rfl (.mk rfl rfl) (.mk rfl rfl) (decide_eq_false (by omega))) ?_
  refine WL.nil (hK _ _ ?_); clear hK
  refine WC.cond_false (.mk rfl rfl) ?_
  refine WC.skip ?_
  (refine hK _ _ ?_; clear hK)
  refine WC.seq fun K hK => ?_
  refine WC.region rfl ?_
  refine wMS rfl rfl rfl rfl rfl ?_
  refine wMI rfl rfl rfl rfl rfl ?_
  refine wG rfl rfl (g_sub rfl (.mk rfl rfl) (.mk rfl rfl) hsub) ?_
  refine wG rfl rfl (g_sliceC (sz := 1) (kl := .i64) (p := 0) rfl (.mk rfl rfl) rfl rfl rfl ⟨(.mk rfl rfl), rfl⟩ (by omega) (fun w hw => Nat.le_trans (by omega) (vec_cap hw (.head _)))) ?_
  refine wAS rfl rfl rfl rfl rfl ?_
  refine wAB rfl rfl rfl rfl rfl ?_
  refine WL.nil (hK _ _ ?_); clear hK
  refine WC.ret ?_
  refine fun w' hw' => ?_
  obtain ⟨g, rfl⟩ := vec_at hw' (.head _) (by omega)
  refine ⟨_, [vec (some ⟨g, 0, none⟩) N c1 3 1 (ldv ((numL (gP bs) bs.length).take N))], rfl, ?_, some ⟨g, 0, none⟩, c1, ?_, rfl⟩
  · rw [← ldv_take]
    exact Imp.h (Imp.trans (Imp.prefix_ _ hg) (Imp.cons (Imp.nil _))) hw'
  · show Value.tuple #[.slice (subA (some ⟨g, 0, none⟩) c1 0 1) (N - 0) (c1 - 0), .bool true] = _
    rw [subA_zero]; rfl
end
abbrev metA : Value := .agg [Value.func (.func 50) #[] #[], Value.func (.func 51) #[] #[], Value.func (.func 94) #[] #[]].toArray
set_option maxHeartbeats 1000000 in
theorem methods_e (w : World) : Calls Tryz.prog 46 #[] w fun e w' => e = .returned metA ∧ Below w.heap.size w w' := by
  refine calls_wcG (args := []) [.cell 0 108] [] Tryz.func46 rfl Tryz.ntmps46 rfl rfl (H.refl _) ?_
  refine WC.seq fun K hK => ?_
  refine WC.region rfl ?_
  refine WL.want rfl (WL1.alloc rfl rfl rfl rfl (fun b0 => ?_))
  refine WL.nil (hK _ _ ?_); clear hK
  refine WC.seq fun K hK => ?_
  refine WC.region rfl ?_
  refine wG rfl rfl (g_build (cs := [_]) rfl rfl rfl rfl (.cons (.mk (v := .func _ _ _) rfl rfl) .nil) rfl rfl rfl) ?_
  refine wG rfl rfl (g_build (cs := [_]) rfl rfl rfl rfl (.cons (.mk (v := .func _ _ _) rfl rfl) .nil) rfl rfl rfl) ?_
  refine wG rfl rfl (g_build (cs := [_]) rfl rfl rfl rfl (.cons (.mk (v := .func _ _ _) rfl rfl) .nil) rfl rfl rfl) ?_
  refine wG rfl rfl (g_buildArrS (sz := 1) (us := [(0, [_]), (1, [_]), (2, [_])]) (cs := [_, _, _]) rfl rfl rfl rfl rfl (.cons (.mk (v := .agg _) rfl rfl) (.cons (.mk (v := .agg _) rfl rfl) (.cons (.mk (v := .agg _) rfl rfl) .nil))) rfl (fun p hp => by simp only [List.mem_cons, List.not_mem_nil, or_false] at hp; rcases hp with rfl | rfl | rfl <;> exact ⟨rfl, by decide⟩) rfl) ?_
  refine WL.want rfl (WL1.storeAll rfl rfl (.mk rfl rfl) (.mk rfl rfl) rfl (all1 rfl) (by first | rfl | (simp [Blk.len]; done)) (.head) ?_)
  refine WL.nil (hK _ _ ?_); clear hK
  refine WC.ret ?_
  exact ⟨_, .cell rfl rfl rfl rfl (.head _) .nil, fun w' hw' => ⟨rfl, hw'.1⟩⟩
end Go.Proofs.YtdcijljfgcjelaaGreat
namespace Go.Proofs.YtdcijljfgcjelaaGreat
set_option maxRecDepth 20000
open Go.RowKit
attribute [local irreducible] Calls
def upB (o : Option (List Nat)) (l : List Nat) (ok : Bool) : Option (List Nat) := if ok && (o.isNone || decide (l.length < (o.getD []).length)) then some l else o
def o1 (T : List Int) (bs : List Bool) : Option (List Nat) := upB none (numL (dP bs.length T) bs.length) (goodL (numL (dP bs.length T) bs.length) bs)
def o2 (T : List Int) (bs : List Bool) : Option (List Nat) := upB (o1 T bs) (numL (rP bs.length T) bs.length) (goodL (numL (rP bs.length T) bs.length) bs)
def o3 (N : Nat) (T : List Int) (bs : List Bool) : Option (List Nat) := upB (o2 T bs) ((numL (gP bs) bs.length).take N) true
def oS (N : Nat) (T : List Int) (bs : List Bool) : Nat → Option (List Nat)
  | 0 => none
  | 1 => o1 T bs
  | 2 => o2 T bs
  | _ => o3 N T bs
def okT (m : Int) (T : List Int) (i : Nat) : Prop := 0 ≤ nth T i ∧ nth T i < m - 3 ∧ (i = 0 ∨ nth T (i - 1) < nth T i)
set_option maxHeartbeats 4000000 in
theorem reads_n {w : World} {A B : Option Addr} {c d N : Nat} {T : List Int} {bs : List Bool} (hN : bs.length = N + 3) (h1 : 1 ≤ N) (h2 : N ≤ 13) (hs : Sl w 1 (.slice A T.length c) T.length (ivs T)) (hsb : Sl w 1 (.slice B bs.length d) bs.length (bls bs)) (hT : ∀ i, i < T.length → okT bs.length T i) (h0 : 0 < T.length) (hT2 : T.length ≤ 1000000)
    (hb3 : (numL (fun i => nth bs i) bs.length).length ≤ 3) (hg : N ≤ (numL (gP bs) bs.length).length) :
    Calls Tryz.prog 15 #[iv bs.length, .slice A T.length c, .slice B bs.length d] w fun e w' => ∃ v' M, e = .returned v' ∧ H w M w' ∧ ∃ A1 c1, v' = .tuple #[.slice A1 ((oS N T bs 3).getD []).length c1, iv 0] ∧ M = [vec A1 ((oS N T bs 3).getD []).length c1 3 1 (ldv ((oS N T bs 3).getD []))] := by
  have hsub : IntKind.i64.wrap ((bs.length : Int) - 3) = (bs.length : Int) - 3 := IntWalk.i64_in _ (by omega)
  have hval : ∀ w', Calls Tryz.prog 43 #[iv bs.length] w' fun e w2 => e = .returned (.bool true) ∧ Below w'.heap.size w' w2 := fun w' => by
    have := valid_i bs.length w'
    rwa [decide_eq_true (by omega)] at this
  refine calls_wc (args := [iv bs.length, .slice A T.length c, .slice B bs.length d]) [6, 7] [] Tryz.func15 rfl Tryz.ntmps15 rfl rfl rfl rfl (H.refl _) ?_
  refine WC.seq fun K hK => ?_
  refine WC.region rfl ?_
  refine WL.want rfl (WL1.box rfl rfl (.mk (v := .slice _ _ _) rfl rfl) rfl (fun b5 => ?_))
  refine wAS rfl rfl rfl rfl rfl ?_
  refine wAI rfl rfl rfl rfl rfl ?_
  refine WL.nil (hK _ _ ?_); clear hK
  refine WC.seq fun K hK => ?_
  refine WC.seq fun K hK => ?_
  refine WC.region rfl ?_
  refine wMI rfl rfl rfl rfl rfl ?_
  refine WL.want rfl (WL1.callP rfl rfl rfl (.cons (.mk (v := .int _ _) rfl rfl) .nil) (fun w hw => hval w) ?_)
  refine wG rfl rfl (g_notT rfl (.mk rfl rfl)) ?_
  refine wMB rfl rfl rfl rfl rfl ?_
  refine WL.wantG rfl rfl rfl rfl (WL1.give rfl (g_load rfl (.mk rfl rfl) rfl (rd_pt (by repeat (first | exact .head _ | apply List.Mem.tail)) rfl)) ?_)
  refine WL.wantG rfl rfl rfl rfl (WL1.give rfl (g_len rfl (.mk rfl rfl) rfl) ?_)
  refine WL.wantG rfl rfl rfl rfl (WL1.give rfl (g_move rfl (.mk (v := .int _ _) rfl rfl)) ?_)
  refine WL.wantG rfl rfl rfl rfl (WL1.give rfl (g_ne rfl (.mk rfl rfl) (.mk rfl rfl) (decide_eq_false (by omega))) ?_)
  refine wG rfl rfl (g_pickF rfl (.mk rfl rfl) (.mk (v := .bool _) rfl rfl)) ?_
  refine WL.nil (hK _ _ ?_); clear hK
  refine WC.cond_false (.mk rfl rfl) ?_
  refine WC.skip ?_
  (refine hK _ _ ?_; clear hK)
  refine WC.seq fun K hK => ?_
  refine WC.seq fun K hK => ?_
  refine WC.region rfl ?_
  refine wMS rfl rfl rfl rfl rfl ?_
  refine wG rfl rfl (g_len rfl (.mk rfl rfl) rfl) ?_
  refine wMI rfl rfl rfl rfl rfl ?_
  refine WL.nil (hK _ _ ?_); clear hK
  refine WC.block ?_
  refine WC.loopF (fun i : Nat => [(27, iv i), (26, iv T.length), (25, .slice A T.length c), (0, iv bs.length), (1, .slice A T.length c), (5, cellPtr (some ⟨b5, 0, none⟩) 0)]) (fun _ => [pt b5 36 [.slice B bs.length d]]) (fun i => i ≤ T.length) (fun i => T.length - i) 0 (by repeat (first | exact trivial | refine ⟨rfl, ?_⟩)) (.refl _) (by omega) ?_
  intro i U hi
  by_cases hlt : i < T.length
  · have hgv := ivs_get (l := T) (k := i) hlt
    obtain ⟨q1, q2, q3⟩ := hT i hlt
    by_cases hi0 : i = 0
    · subst hi0
      refine WC.seq fun K hK => ?_
      refine WC.region rfl ?_
      refine wG rfl rfl (g_lt rfl (.mk rfl rfl) (.mk rfl rfl) (decide_eq_true (by omega))) ?_
      refine WL.nil (hK _ _ ?_); clear hK
      refine WC.seq fun K hK => ?_
      refine WC.cond_true (.mk rfl rfl) ?_
      refine WC.skip ?_
      (refine hK _ _ ?_; clear hK)
      refine WC.seq fun K hK => ?_
      refine WC.block ?_
      refine WC.seq fun K hK => ?_
      refine WC.region rfl ?_
      refine wMI rfl rfl rfl rfl rfl ?_
      refine wG rfl rfl (g_indexAddr (sz := 1) rfl (.mk rfl rfl) (.mk rfl rfl) rfl rfl (show _ = ((0 : Nat) : Int) from rfl) (by omega) (fun _ _ => sl_some hs (by omega))) ?_
      refine wG rfl rfl (g_load rfl (.mk rfl rfl) rfl (rd_sl hs hgv)) ?_
      refine wAI rfl rfl rfl rfl rfl ?_
      refine wAI rfl rfl rfl rfl rfl ?_
      refine WL.nil (hK _ _ ?_); clear hK
      refine WC.seq fun K hK => ?_
      refine WC.region rfl ?_
      refine wMI rfl rfl rfl rfl rfl ?_
      refine wG rfl rfl (g_lt rfl (.mk rfl rfl) (.mk rfl rfl) (decide_eq_false (by omega))) ?_
      refine wMB rfl rfl rfl rfl rfl ?_
      refine WL.wantG rfl rfl rfl rfl (WL1.give rfl (g_move rfl (.mk (v := .int _ _) rfl rfl)) ?_)
      refine WL.wantG rfl rfl rfl rfl (WL1.give rfl (g_move rfl (.mk (v := .int _ _) rfl rfl)) ?_)
      refine WL.wantG rfl rfl rfl rfl (WL1.give rfl (g_sub rfl (.mk rfl rfl) (.mk rfl rfl) hsub) ?_)
      refine WL.wantG rfl rfl rfl rfl (WL1.give rfl (g_ge rfl (.mk rfl rfl) (.mk rfl rfl) (decide_eq_false (by omega))) ?_)
      refine wG rfl rfl (g_pickF rfl (.mk rfl rfl) (.mk (v := .bool _) rfl rfl)) ?_
      refine wMB rfl rfl rfl rfl rfl ?_
      refine WL.wantG rfl rfl rfl rfl (WL1.give rfl (g_move rfl (.mk (v := .int _ _) rfl rfl)) ?_)
      refine WL.wantG rfl rfl rfl rfl (WL1.give rfl (g_gt rfl (.mk rfl rfl) (.mk rfl rfl) (decide_eq_false (by omega))) ?_)
      refine WL.wantG rfl rfl rfl rfl (WL1.give rfl (g_move rfl (.mk (v := .bool _) rfl rfl)) ?_)
      refine WL.skipG rfl rfl rfl rfl rfl rfl ?_
      refine WL.skipG rfl rfl rfl rfl rfl rfl ?_
      refine WL.skipG rfl rfl rfl rfl rfl rfl ?_
      refine WL.skipG rfl rfl rfl rfl rfl rfl ?_
      refine WL.skipG rfl rfl rfl rfl rfl rfl ?_
      refine WL.skipG rfl rfl rfl rfl rfl rfl ?_
      refine WL.skipG rfl rfl rfl rfl rfl rfl ?_
      refine WL.wantG rfl rfl rfl rfl (WL1.give rfl (g_pickF rfl (.mk rfl rfl) (.mk (v := .bool _) rfl rfl)) ?_)
      refine wG rfl rfl (g_pickF rfl (.mk rfl rfl) (.mk (v := .bool _) rfl rfl)) ?_
      refine WL.nil (hK _ _ ?_); clear hK
      refine WC.cond_false (.mk rfl rfl) ?_
      refine WC.skip ?_
      (refine hK _ _ ?_; clear hK)
      refine WC.region rfl ?_
      refine wG rfl rfl (g_add rfl (.mk rfl rfl) (.mk rfl rfl) (IntWalk.i64_in _ (by omega))) ?_
      refine wMI rfl rfl rfl rfl rfl ?_
      refine WL.nil ?_
      exact ⟨0 + 1, (by repeat (first | exact trivial | refine ⟨rfl, ?_⟩)), .refl _, by omega, by omega⟩
    · have hsb1 : IntKind.i64.wrap ((i : Int) - 1) = ((i - 1 : Nat) : Int) := by rw [IntWalk.i64_in _ (by omega)]; omega
      have hgv2 := ivs_get (l := T) (k := i - 1) (by omega)
      have q4 := q3.resolve_left hi0
      refine WC.seq fun K hK => ?_
      refine WC.region rfl ?_
      refine wG rfl rfl (g_lt rfl (.mk rfl rfl) (.mk rfl rfl) (decide_eq_true (by omega))) ?_
      refine WL.nil (hK _ _ ?_); clear hK
      refine WC.seq fun K hK => ?_
      refine WC.cond_true (.mk rfl rfl) ?_
      refine WC.skip ?_
      (refine hK _ _ ?_; clear hK)
      refine WC.seq fun K hK => ?_
      refine WC.block ?_
      refine WC.seq fun K hK => ?_
      refine WC.region rfl ?_
      refine wMI rfl rfl rfl rfl rfl ?_
      refine wG rfl rfl (g_indexAddr (sz := 1) rfl (.mk rfl rfl) (.mk rfl rfl) rfl rfl rfl (by omega) (fun _ _ => sl_some hs (by omega))) ?_
      refine wG rfl rfl (g_load rfl (.mk rfl rfl) rfl (rd_sl hs hgv)) ?_
      refine wAI rfl rfl rfl rfl rfl ?_
      refine wAI rfl rfl rfl rfl rfl ?_
      refine WL.nil (hK _ _ ?_); clear hK
      refine WC.seq fun K hK => ?_
      refine WC.region rfl ?_
      refine wMI rfl rfl rfl rfl rfl ?_
      refine wG rfl rfl (g_lt rfl (.mk rfl rfl) (.mk rfl rfl) (decide_eq_false (by omega))) ?_
      refine wMB rfl rfl rfl rfl rfl ?_
      refine WL.wantG rfl rfl rfl rfl (WL1.give rfl (g_move rfl (.mk (v := .int _ _) rfl rfl)) ?_)
      refine WL.wantG rfl rfl rfl rfl (WL1.give rfl (g_move rfl (.mk (v := .int _ _) rfl rfl)) ?_)
      refine WL.wantG rfl rfl rfl rfl (WL1.give rfl (g_sub rfl (.mk rfl rfl) (.mk rfl rfl) hsub) ?_)
      refine WL.wantG rfl rfl rfl rfl (WL1.give rfl (g_ge rfl (.mk rfl rfl) (.mk rfl rfl) (decide_eq_false (by omega))) ?_)
      refine wG rfl rfl (g_pickF rfl (.mk rfl rfl) (.mk (v := .bool _) rfl rfl)) ?_
      refine wMB rfl rfl rfl rfl rfl ?_
      refine WL.wantG rfl rfl rfl rfl (WL1.give rfl (g_move rfl (.mk (v := .int _ _) rfl rfl)) ?_)
      refine WL.wantG rfl rfl rfl rfl (WL1.give rfl (g_gt rfl (.mk rfl rfl) (.mk rfl rfl) (decide_eq_true (by omega))) ?_)
      refine WL.wantG rfl rfl rfl rfl (WL1.give rfl (g_move rfl (.mk (v := .bool _) rfl rfl)) ?_)
      refine WL.wantG rfl rfl rfl rfl (WL1.give rfl (g_move rfl (.mk (v := .int _ _) rfl rfl)) ?_)
      refine WL.wantG rfl rfl rfl rfl (WL1.give rfl (g_move rfl (.mk (v := .slice _ _ _) rfl rfl)) ?_)
      refine WL.wantG rfl rfl rfl rfl (WL1.give rfl (g_move rfl (.mk (v := .int _ _) rfl rfl)) ?_)
      refine WL.wantG rfl rfl rfl rfl (WL1.give rfl (g_sub rfl (.mk rfl rfl) (.mk rfl rfl) hsb1) ?_)
      refine WL.wantG rfl rfl rfl rfl (WL1.give rfl (g_indexAddr (sz := 1) rfl (.mk rfl rfl) (.mk rfl rfl) rfl rfl rfl (by omega) (fun _ _ => sl_some hs (by omega))) ?_)
      refine WL.wantG rfl rfl rfl rfl (WL1.give rfl (g_load rfl (.mk rfl rfl) rfl (rd_sl hs hgv2)) ?_)
      refine WL.wantG rfl rfl rfl rfl (WL1.give rfl (g_le rfl (.mk rfl rfl) (.mk rfl rfl) (decide_eq_false (by omega))) ?_)
      refine WL.wantG rfl rfl rfl rfl (WL1.give rfl (g_pickT rfl (.mk rfl rfl) (.mk (v := .bool _) rfl rfl)) ?_)
      refine wG rfl rfl (g_pickF rfl (.mk rfl rfl) (.mk (v := .bool _) rfl rfl)) ?_
      refine WL.nil (hK _ _ ?_); clear hK
      refine WC.cond_false (.mk rfl rfl) ?_
      refine WC.skip ?_
      (refine hK _ _ ?_; clear hK)
      refine WC.region rfl ?_
      refine wG rfl rfl (g_add rfl (.mk rfl rfl) (.mk rfl rfl) (IntWalk.i64_in _ (by omega))) ?_
      refine wMI rfl rfl rfl rfl rfl ?_
      refine WL.nil ?_
      exact ⟨i + 1, (by repeat (first | exact trivial | refine ⟨rfl, ?_⟩)), .refl _, by omega, by omega⟩
  · obtain rfl : i = T.length := by omega
    refine WC.seq fun K hK => ?_
    refine WC.region rfl ?_
    refine wG rfl rfl (g_lt rfl (.mk rfl rfl) (.mk rfl rfl) (decide_eq_false (by omega))) ?_
    refine WL.nil (hK _ _ ?_); clear hK
    refine WC.seq fun K hK => ?_
    refine WC.cond_false (.mk rfl rfl) ?_
    refine WC.exit ?_
    (clear hK; refine hK _ _ ?_; clear hK)
    refine WC.seq fun K hK => ?_
    refine WC.seq fun K hK => ?_
    refine WC.region rfl ?_
    refine wMI rfl rfl rfl rfl rfl ?_
    refine wG rfl rfl (g_makeFunc rfl (.cons (.mk (v := cellPtr _ _) rfl rfl) .nil)) ?_
    (refine WL.want rfl (WL1.callN rfl rfl rfl (.cons (.mk (v := .int _ _) rfl rfl) (.cons (.mk (v := .func _ _ _) rfl rfl) .nil)) (fun w hw => numbers_n _ [cellPtr (some ⟨b5, 0, none⟩) 0] (fun i => nth bs i) bs.length w (pred_reads (cell_pt hw (by repeat (first | exact .head _ | apply List.Mem.tail)) rfl) (hsb.below hw.1)) (by omega)) ?_); rintro _ _ ⟨Ab, cb, rfl, rfl⟩)
    refine wG rfl rfl (g_len rfl (.mk rfl rfl) rfl) ?_
    refine wG rfl rfl (g_gt rfl (.mk rfl rfl) (.mk rfl rfl) (decide_eq_false (by omega))) ?_
    refine WL.nil (hK _ _ ?_); clear hK
    refine WC.cond_false (.mk rfl rfl) ?_
    refine WC.skip ?_
    (refine hK _ _ ?_; clear hK)
    refine WC.seq fun K hK => ?_
    refine WC.seq fun K hK => ?_
    refine WC.region rfl ?_
    refine wMS rfl rfl rfl rfl rfl ?_
    refine wG rfl rfl (g_len rfl (.mk rfl rfl) rfl) ?_
    refine wG rfl rfl (g_eq rfl (.mk rfl rfl) (.mk rfl rfl) (decide_eq_false (by omega))) ?_
    refine WL.nil (hK _ _ ?_); clear hK
    refine WC.cond_false (.mk rfl rfl) ?_
    refine WC.skip ?_
    (refine hK _ _ ?_; clear hK)
    refine WC.seq fun K hK => ?_
    refine WC.region rfl ?_
    refine wAS rfl rfl rfl rfl rfl ?_
    refine WL.nil (hK _ _ ?_); clear hK
    refine WC.seq fun K hK => ?_
    refine WC.region rfl ?_
    refine wAB rfl rfl rfl rfl rfl ?_
    refine WL.nil (hK _ _ ?_); clear hK
    refine WC.seq fun K hK => ?_
    refine WC.seq fun K hK => ?_
    refine WC.region rfl ?_
    refine WL.want rfl (WL1.callP rfl rfl rfl .nil (fun w hw => methods_e w) ?_)
    refine wMI rfl rfl rfl rfl rfl ?_
    refine WL.nil (hK _ _ ?_); clear hK
    refine WC.block ?_
    refine WC.nilvec 3 1 ?_
    refine WC.loopF4 (fun (i : Nat) (o : Option (List Nat)) (A1 : Option Addr) (c1 : Nat) => [(63, iv i), (62, metA), (10, .slice A1 (o.getD []).length c1), (11, .bool o.isSome), (0, iv bs.length), (1, .slice A T.length c), (5, cellPtr (some ⟨b5, 0, none⟩) 0)]) (fun _ o A1 c1 => [vec A1 (o.getD []).length c1 3 1 (ldv (o.getD [])), pt b5 36 [.slice B bs.length d]]) (fun i o _ _ => i ≤ 3 ∧ o = oS N T bs i) (fun i _ _ _ => 3 - i) 0 none none 0 (by repeat (first | exact trivial | refine ⟨rfl, ?_⟩)) (Imp.pick (A := vec none 0 0 3 1 []) (by repeat (first | exact .head | apply Take.tail)) (Imp.pick (by repeat (first | exact .head | apply Take.tail)) (Imp.nil _))) ⟨by omega, rfl⟩ ?_
    rintro i o A1 c1 U2 ⟨hi, ho⟩
    by_cases hlt2 : i < 3
    · obtain ⟨f, l, ok, hf, hok, hcl, hnx⟩ : ∃ (f : FuncId) (l : List Nat) (ok : Bool), (([Value.func (.func 50) #[] #[], Value.func (.func 51) #[] #[], Value.func (.func 94) #[] #[]].drop (i * 1)).take 1 = [Value.func (.func f) #[] #[]]) ∧ callable Tryz.prog f = true ∧ (∀ w', Below w.heap.size w w' → Calls Tryz.prog f #[iv bs.length, .slice A T.length c, .slice B bs.length d] w' fun e w2 => ∃ v' M, e = .returned v' ∧ H w' M w2 ∧ ∃ A1 c1, v' = .tuple #[.slice A1 l.length c1, .bool ok] ∧ M = [vec A1 l.length c1 3 1 (ldv l)]) ∧ oS N T bs (i + 1) = upB (oS N T bs i) l ok := by
        rcases (by omega : i = 0 ∨ i = 1 ∨ i = 2) with rfl | rfl | rfl
        · exact ⟨_, _, _, rfl, by kernel_rfl, fun w' hb => delta_n (by omega) (hs.below hb) (hsb.below hb), rfl⟩
        · exact ⟨_, _, _, rfl, by kernel_rfl, fun w' hb => recompute_n (by omega) (hs.below hb) (hsb.below hb), rfl⟩
        · refine ⟨_, (numL (gP bs) bs.length).take N, _, rfl, by kernel_rfl, fun w' hb => ?_, rfl⟩
          have htl : ((numL (gP bs) bs.length).take N).length = N := by rw [List.length_take]; omega
          rw [htl]
          exact first_n hN h1 h2 hg (hsb.below hb)
      rw [← ho] at hnx
      clear ho hT hs hsb hb3 hg hsub hval
      cases ok with
      | false =>
        have hst : oS N T bs (i + 1) = o := hnx
        refine WC.seq fun K hK => ?_
        refine WC.region rfl ?_
        refine wG rfl rfl (g_lt rfl (.mk rfl rfl) (.mk rfl rfl) (decide_eq_true (by omega))) ?_
        refine WL.nil (hK _ _ ?_); clear hK
        refine WC.seq fun K hK => ?_
        refine WC.cond_true (.mk rfl rfl) ?_
        refine WC.skip ?_
        (refine hK _ _ ?_; clear hK)
        refine WC.seq fun K hK => ?_
        refine WC.block ?_
        refine WC.seq fun K hK => ?_
        refine WC.region rfl ?_
        refine wG rfl rfl (g_indexG (sz := 1) rfl (.mk rfl rfl) (.mk rfl rfl) rfl rfl rfl rfl hlt2 (by show i * 1 + 1 ≤ 3; omega) hf) ?_
        refine WL.want rfl (WL1.alloc rfl rfl rfl rfl (fun b13 => ?_))
        refine WL.want rfl (WL1.storeAll rfl rfl (.mk rfl rfl) (.mk rfl rfl) rfl (all1 rfl) (by first | rfl | (simp [Blk.len]; done)) (.head) ?_)
        refine WL.nil (hK _ _ ?_); clear hK
        refine WC.seq fun K hK => ?_
        refine WC.region rfl ?_
        refine wG rfl rfl (g_fieldAddr (off := 0) rfl (.mk rfl rfl) rfl (fun _ _ => rfl)) ?_
        refine wG rfl rfl (g_load rfl (.mk rfl rfl) rfl (rd_pt (by repeat (first | exact .head _ | apply List.Mem.tail)) rfl)) ?_
        refine wMI rfl rfl rfl rfl rfl ?_
        refine wMS rfl rfl rfl rfl rfl ?_
        refine wG rfl rfl (g_load rfl (.mk rfl rfl) rfl (rd_pt (by repeat (first | exact .head _ | apply List.Mem.tail)) rfl)) ?_
        (refine WL.want rfl (WL1.callVN rfl rfl (.mk rfl rfl) (by first | assumption | rfl | kernel_rfl) (.cons (.mk (v := .int _ _) rfl rfl) (.cons (.mk (v := .slice _ _ _) rfl rfl) (.cons (.mk (v := .slice _ _ _) rfl rfl) .nil))) (fun w hw => hcl w hw.1) ?_); rintro _ _ ⟨A2, c2, rfl, rfl⟩)
        refine wG rfl rfl (g_move rfl (.mk (v := .tuple _) rfl rfl)) ?_
        refine wG rfl rfl (g_extract rfl (.mk rfl rfl) rfl) ?_
        refine wG rfl rfl (g_extract rfl (.mk rfl rfl) rfl) ?_
        refine wAS rfl rfl rfl rfl rfl ?_
        refine wAB rfl rfl rfl rfl rfl ?_
        refine WL.nil (hK _ _ ?_); clear hK
        refine WC.seq fun K hK => ?_
        refine WC.region rfl ?_
        refine wMB rfl rfl rfl rfl rfl ?_
        refine wMB rfl rfl rfl rfl rfl ?_
        refine WL.skipG rfl rfl rfl rfl rfl rfl ?_
        refine WL.skipG rfl rfl rfl rfl rfl rfl ?_
        refine WL.skipG rfl rfl rfl rfl rfl rfl ?_
        refine WL.skipU rfl rfl rfl rfl rfl ?_
        refine WL.skipU rfl rfl rfl rfl rfl ?_
        refine WL.skipU rfl rfl rfl rfl rfl ?_
        refine WL.skipU rfl rfl rfl rfl rfl ?_
        refine WL.skipU rfl rfl rfl rfl rfl ?_
        refine WL.skipG rfl rfl rfl rfl rfl rfl ?_
        refine wG rfl rfl (g_pickF rfl (.mk rfl rfl) (.mk (v := .bool _) rfl rfl)) ?_
        refine WL.nil (hK _ _ ?_); clear hK
        refine WC.cond_false (.mk rfl rfl) ?_
        refine WC.skip ?_
        (refine hK _ _ ?_; clear hK)
        refine WC.region rfl ?_
        refine wG rfl rfl (g_add rfl (.mk rfl rfl) (.mk rfl rfl) (IntWalk.i64_in _ (by omega))) ?_
        refine wMI rfl rfl rfl rfl rfl ?_
        refine WL.nil ?_
        exact ⟨i + 1, o, A1, c1, (by repeat (first | exact trivial | refine ⟨rfl, ?_⟩)), Imp.pick (by repeat (first | exact .head | apply Take.tail)) (Imp.pick (by repeat (first | exact .head | apply Take.tail)) (Imp.nil _)), ⟨by omega, hst.symm⟩, by omega⟩
      | true =>
        cases o with
        | none =>
          have hst : oS N T bs (i + 1) = some l := hnx
          refine WC.seq fun K hK => ?_
          refine WC.region rfl ?_
          refine wG rfl rfl (g_lt rfl (.mk rfl rfl) (.mk rfl rfl) (decide_eq_true (by omega))) ?_
          refine WL.nil (hK _ _ ?_); clear hK
          refine WC.seq fun K hK => ?_
          refine WC.cond_true (.mk rfl rfl) ?_
          refine WC.skip ?_
          (refine hK _ _ ?_; clear hK)
          refine WC.seq fun K hK => ?_
          refine WC.block ?_
          refine WC.seq fun K hK => ?_
          refine WC.region rfl ?_
          refine wG rfl rfl (g_indexG (sz := 1) rfl (.mk rfl rfl) (.mk rfl rfl) rfl rfl rfl rfl hlt2 (by show i * 1 + 1 ≤ 3; omega) hf) ?_
          refine WL.want rfl (WL1.alloc rfl rfl rfl rfl (fun b13 => ?_))
          refine WL.want rfl (WL1.storeAll rfl rfl (.mk rfl rfl) (.mk rfl rfl) rfl (all1 rfl) (by first | rfl | (simp [Blk.len]; done)) (.head) ?_)
          refine WL.nil (hK _ _ ?_); clear hK
          refine WC.seq fun K hK => ?_
          refine WC.region rfl ?_
          refine wG rfl rfl (g_fieldAddr (off := 0) rfl (.mk rfl rfl) rfl (fun _ _ => rfl)) ?_
          refine wG rfl rfl (g_load rfl (.mk rfl rfl) rfl (rd_pt (by repeat (first | exact .head _ | apply List.Mem.tail)) rfl)) ?_
          refine wMI rfl rfl rfl rfl rfl ?_
          refine wMS rfl rfl rfl rfl rfl ?_
          refine wG rfl rfl (g_load rfl (.mk rfl rfl) rfl (rd_pt (by repeat (first | exact .head _ | apply List.Mem.tail)) rfl)) ?_
          (refine WL.want rfl (WL1.callVN rfl rfl (.mk rfl rfl) (by first | assumption | rfl | kernel_rfl) (.cons (.mk (v := .int _ _) rfl rfl) (.cons (.mk (v := .slice _ _ _) rfl rfl) (.cons (.mk (v := .slice _ _ _) rfl rfl) .nil))) (fun w hw => hcl w hw.1) ?_); rintro _ _ ⟨A2, c2, rfl, rfl⟩)
          refine wG rfl rfl (g_move rfl (.mk (v := .tuple _) rfl rfl)) ?_
          refine wG rfl rfl (g_extract rfl (.mk rfl rfl) rfl) ?_
          refine wG rfl rfl (g_extract rfl (.mk rfl rfl) rfl) ?_
          refine wAS rfl rfl rfl rfl rfl ?_
          refine wAB rfl rfl rfl rfl rfl ?_
          refine WL.nil (hK _ _ ?_); clear hK
          refine WC.seq fun K hK => ?_
          refine WC.region rfl ?_
          refine wMB rfl rfl rfl rfl rfl ?_
          refine wMB rfl rfl rfl rfl rfl ?_
          refine WL.wantG rfl rfl rfl rfl (WL1.give rfl (g_move rfl (.mk (v := .bool _) rfl rfl)) ?_)
          refine WL.wantG rfl rfl rfl rfl (WL1.give rfl (g_notF rfl (.mk rfl rfl)) ?_)
          refine WL.wantG rfl rfl rfl rfl (WL1.give rfl (g_move rfl (.mk (v := .bool _) rfl rfl)) ?_)
          refine WL.skipG rfl rfl rfl rfl rfl rfl ?_
          refine WL.skipG rfl rfl rfl rfl rfl rfl ?_
          refine WL.skipG rfl rfl rfl rfl rfl rfl ?_
          refine WL.skipG rfl rfl rfl rfl rfl rfl ?_
          refine WL.skipG rfl rfl rfl rfl rfl rfl ?_
          refine WL.wantG rfl rfl rfl rfl (WL1.give rfl (g_pickT rfl (.mk rfl rfl) (.mk (v := .bool _) rfl rfl)) ?_)
          refine wG rfl rfl (g_pickT rfl (.mk rfl rfl) (.mk (v := .bool _) rfl rfl)) ?_
          refine WL.nil (hK _ _ ?_); clear hK
          refine WC.cond_true (.mk rfl rfl) ?_
          refine WC.region rfl ?_
          refine wMS rfl rfl rfl rfl rfl ?_
          refine wAS rfl rfl rfl rfl rfl ?_
          refine wAB rfl rfl rfl rfl rfl ?_
          refine WL.nil (hK _ _ ?_); clear hK
          refine WC.region rfl ?_
          refine wG rfl rfl (g_add rfl (.mk rfl rfl) (.mk rfl rfl) (IntWalk.i64_in _ (by omega))) ?_
          refine wMI rfl rfl rfl rfl rfl ?_
          refine WL.nil ?_
          exact ⟨i + 1, some l, A2, c2, (by repeat (first | exact trivial | refine ⟨rfl, ?_⟩)), Imp.pick (by repeat (first | exact .head | apply Take.tail)) (Imp.pick (by repeat (first | exact .head | apply Take.tail)) (Imp.nil _)), ⟨by omega, hst.symm⟩, by omega⟩
        | some b =>
          by_cases hlb : l.length < b.length
          · have hst : oS N T bs (i + 1) = some l := hnx.trans (by show (if (decide (l.length < b.length)) = true then some l else some b) = _; rw [decide_eq_true hlb, if_pos rfl])
            have hlb' : l.length < ((some b).getD ([] : List Nat)).length := hlb
            refine WC.seq fun K hK => ?_
            refine WC.region rfl ?_
            refine wG rfl rfl (g_lt rfl (.mk rfl rfl) (.mk rfl rfl) (decide_eq_true (by omega))) ?_
            refine WL.nil (hK _ _ ?_); clear hK
            refine WC.seq fun K hK => ?_
            refine WC.cond_true (.mk rfl rfl) ?_
            refine WC.skip ?_
            (refine hK _ _ ?_; clear hK)
            refine WC.seq fun K hK => ?_
            refine WC.block ?_
            refine WC.seq fun K hK => ?_
            refine WC.region rfl ?_
            refine wG rfl rfl (g_indexG (sz := 1) rfl (.mk rfl rfl) (.mk rfl rfl) rfl rfl rfl rfl hlt2 (by show i * 1 + 1 ≤ 3; omega) hf) ?_
            refine WL.want rfl (WL1.alloc rfl rfl rfl rfl (fun b13 => ?_))
            refine WL.want rfl (WL1.storeAll rfl rfl (.mk rfl rfl) (.mk rfl rfl) rfl (all1 rfl) (by first | rfl | (simp [Blk.len]; done)) (.head) ?_)
            refine WL.nil (hK _ _ ?_); clear hK
            refine WC.seq fun K hK => ?_
            refine WC.region rfl ?_
            refine wG rfl rfl (g_fieldAddr (off := 0) rfl (.mk rfl rfl) rfl (fun _ _ => rfl)) ?_
            refine wG rfl rfl (g_load rfl (.mk rfl rfl) rfl (rd_pt (by repeat (first | exact .head _ | apply List.Mem.tail)) rfl)) ?_
            refine wMI rfl rfl rfl rfl rfl ?_
            refine wMS rfl rfl rfl rfl rfl ?_
            refine wG rfl rfl (g_load rfl (.mk rfl rfl) rfl (rd_pt (by repeat (first | exact .head _ | apply List.Mem.tail)) rfl)) ?_
            (refine WL.want rfl (WL1.callVN rfl rfl (.mk rfl rfl) (by first | assumption | rfl | kernel_rfl) (.cons (.mk (v := .int _ _) rfl rfl) (.cons (.mk (v := .slice _ _ _) rfl rfl) (.cons (.mk (v := .slice _ _ _) rfl rfl) .nil))) (fun w hw => hcl w hw.1) ?_); rintro _ _ ⟨A2, c2, rfl, rfl⟩)
            refine wG rfl rfl (g_move rfl (.mk (v := .tuple _) rfl rfl)) ?_
            refine wG rfl rfl (g_extract rfl (.mk rfl rfl) rfl) ?_
            refine wG rfl rfl (g_extract rfl (.mk rfl rfl) rfl) ?_
            refine wAS rfl rfl rfl rfl rfl ?_
            refine wAB rfl rfl rfl rfl rfl ?_
            refine WL.nil (hK _ _ ?_); clear hK
            refine WC.seq fun K hK => ?_
            refine WC.region rfl ?_
            refine wMB rfl rfl rfl rfl rfl ?_
            refine wMB rfl rfl rfl rfl rfl ?_
            refine WL.wantG rfl rfl rfl rfl (WL1.give rfl (g_move rfl (.mk (v := .bool _) rfl rfl)) ?_)
            refine WL.wantG rfl rfl rfl rfl (WL1.give rfl (g_notT rfl (.mk rfl rfl)) ?_)
            refine WL.wantG rfl rfl rfl rfl (WL1.give rfl (g_move rfl (.mk (v := .bool _) rfl rfl)) ?_)
            refine WL.wantG rfl rfl rfl rfl (WL1.give rfl (g_move rfl (.mk (v := .slice _ _ _) rfl rfl)) ?_)
            refine WL.wantG rfl rfl rfl rfl (WL1.give rfl (g_len rfl (.mk rfl rfl) rfl) ?_)
            refine WL.wantG rfl rfl rfl rfl (WL1.give rfl (g_move rfl (.mk (v := .slice _ _ _) rfl rfl)) ?_)
            refine WL.wantG rfl rfl rfl rfl (WL1.give rfl (g_len rfl (.mk rfl rfl) rfl) ?_)
            refine WL.wantG rfl rfl rfl rfl (WL1.give rfl (g_lt rfl (.mk rfl rfl) (.mk rfl rfl) (decide_eq_true (by omega))) ?_)
            refine WL.wantG rfl rfl rfl rfl (WL1.give rfl (g_pickF rfl (.mk rfl rfl) (.mk (v := .bool _) rfl rfl)) ?_)
            refine wG rfl rfl (g_pickT rfl (.mk rfl rfl) (.mk (v := .bool _) rfl rfl)) ?_
            refine WL.nil (hK _ _ ?_); clear hK
            refine WC.cond_true (.mk rfl rfl) ?_
            refine WC.region rfl ?_
            refine wMS rfl rfl rfl rfl rfl ?_
            refine wAS rfl rfl rfl rfl rfl ?_
            refine wAB rfl rfl rfl rfl rfl ?_
            refine WL.nil (hK _ _ ?_); clear hK
            refine WC.region rfl ?_
            refine wG rfl rfl (g_add rfl (.mk rfl rfl) (.mk rfl rfl) (IntWalk.i64_in _ (by omega))) ?_
            refine wMI rfl rfl rfl rfl rfl ?_
            refine WL.nil ?_
            exact ⟨i + 1, some l, A2, c2, (by repeat (first | exact trivial | refine ⟨rfl, ?_⟩)), Imp.pick (by repeat (first | exact .head | apply Take.tail)) (Imp.pick (by repeat (first | exact .head | apply Take.tail)) (Imp.nil _)), ⟨by omega, hst.symm⟩, by omega⟩
          · have hst : oS N T bs (i + 1) = some b := hnx.trans (by show (if (decide (l.length < b.length)) = true then some l else some b) = _; rw [decide_eq_false hlb, if_neg Bool.false_ne_true])
            have hlb' : ¬ l.length < ((some b).getD ([] : List Nat)).length := hlb
            refine WC.seq fun K hK => ?_
            refine WC.region rfl ?_
            refine wG rfl rfl (g_lt rfl (.mk rfl rfl) (.mk rfl rfl) (decide_eq_true (by omega))) ?_
            refine WL.nil (hK _ _ ?_); clear hK
            refine WC.seq fun K hK => ?_
            refine WC.cond_true (.mk rfl rfl) ?_
            refine WC.skip ?_
            (refine hK _ _ ?_; clear hK)
            refine WC.seq fun K hK => ?_
            refine WC.block ?_
            refine WC.seq fun K hK => ?_
            refine WC.region rfl ?_
            refine wG rfl rfl (g_indexG (sz := 1) rfl (.mk rfl rfl) (.mk rfl rfl) rfl rfl rfl rfl hlt2 (by show i * 1 + 1 ≤ 3; omega) hf) ?_
            refine WL.want rfl (WL1.alloc rfl rfl rfl rfl (fun b13 => ?_))
            refine WL.want rfl (WL1.storeAll rfl rfl (.mk rfl rfl) (.mk rfl rfl) rfl (all1 rfl) (by first | rfl | (simp [Blk.len]; done)) (.head) ?_)
            refine WL.nil (hK _ _ ?_); clear hK
            refine WC.seq fun K hK => ?_
            refine WC.region rfl ?_
            refine wG rfl rfl (g_fieldAddr (off := 0) rfl (.mk rfl rfl) rfl (fun _ _ => rfl)) ?_
            refine wG rfl rfl (g_load rfl (.mk rfl rfl) rfl (rd_pt (by repeat (first | exact .head _ | apply List.Mem.tail)) rfl)) ?_
            refine wMI rfl rfl rfl rfl rfl ?_
            refine wMS rfl rfl rfl rfl rfl ?_
            refine wG rfl rfl (g_load rfl (.mk rfl rfl) rfl (rd_pt (by repeat (first | exact .head _ | apply List.Mem.tail)) rfl)) ?_
            (refine WL.want rfl (WL1.callVN rfl rfl (.mk rfl rfl) (by first | assumption | rfl | kernel_rfl) (.cons (.mk (v := .int _ _) rfl rfl) (.cons (.mk (v := .slice _ _ _) rfl rfl) (.cons (.mk (v := .slice _ _ _) rfl rfl) .nil))) (fun w hw => hcl w hw.1) ?_); rintro _ _ ⟨A2, c2, rfl, rfl⟩)
            refine wG rfl rfl (g_move rfl (.mk (v := .tuple _) rfl rfl)) ?_
            refine wG rfl rfl (g_extract rfl (.mk rfl rfl) rfl) ?_
            refine wG rfl rfl (g_extract rfl (.mk rfl rfl) rfl) ?_
            refine wAS rfl rfl rfl rfl rfl ?_
            refine wAB rfl rfl rfl rfl rfl ?_
            refine WL.nil (hK _ _ ?_); clear hK
            refine WC.seq fun K hK => ?_
            refine WC.region rfl ?_
            refine wMB rfl rfl rfl rfl rfl ?_
            refine wMB rfl rfl rfl rfl rfl ?_
            refine WL.wantG rfl rfl rfl rfl (WL1.give rfl (g_move rfl (.mk (v := .bool _) rfl rfl)) ?_)
            refine WL.wantG rfl rfl rfl rfl (WL1.give rfl (g_notT rfl (.mk rfl rfl)) ?_)
            refine WL.wantG rfl rfl rfl rfl (WL1.give rfl (g_move rfl (.mk (v := .bool _) rfl rfl)) ?_)
            refine WL.wantG rfl rfl rfl rfl (WL1.give rfl (g_move rfl (.mk (v := .slice _ _ _) rfl rfl)) ?_)
            refine WL.wantG rfl rfl rfl rfl (WL1.give rfl (g_len rfl (.mk rfl rfl) rfl) ?_)
            refine WL.wantG rfl rfl rfl rfl (WL1.give rfl (g_move rfl (.mk (v := .slice _ _ _) rfl rfl)) ?_)
            refine WL.wantG rfl rfl rfl rfl (WL1.give rfl (g_len rfl (.mk rfl rfl) rfl) ?_)
            refine WL.wantG rfl rfl rfl rfl (WL1.give rfl (g_lt rfl (.mk rfl rfl) (.mk rfl rfl) (decide_eq_false (by omega))) ?_)
            refine WL.wantG rfl rfl rfl rfl (WL1.give rfl (g_pickF rfl (.mk rfl rfl) (.mk (v := .bool _) rfl rfl)) ?_)
            refine wG rfl rfl (g_pickT rfl (.mk rfl rfl) (.mk (v := .bool _) rfl rfl)) ?_
            refine WL.nil (hK _ _ ?_); clear hK
            refine WC.cond_false (.mk rfl rfl) ?_
            refine WC.skip ?_
            (refine hK _ _ ?_; clear hK)
            refine WC.region rfl ?_
            refine wG rfl rfl (g_add rfl (.mk rfl rfl) (.mk rfl rfl) (IntWalk.i64_in _ (by omega))) ?_
            refine wMI rfl rfl rfl rfl rfl ?_
            refine WL.nil ?_
            exact ⟨i + 1, some b, A1, c1, (by repeat (first | exact trivial | refine ⟨rfl, ?_⟩)), Imp.pick (by repeat (first | exact .head | apply Take.tail)) (Imp.pick (by repeat (first | exact .head | apply Take.tail)) (Imp.nil _)), ⟨by omega, hst.symm⟩, by omega⟩
    · obtain rfl : i = 3 := by omega
      subst ho
      refine WC.seq fun K hK => ?_
      refine WC.region rfl ?_
      refine wG rfl rfl (g_lt rfl (.mk rfl rfl) (.mk rfl rfl) (decide_eq_false (by omega))) ?_
      refine WL.nil (hK _ _ ?_); clear hK
      refine WC.seq fun K hK => ?_
      refine WC.cond_false (.mk rfl rfl) ?_
      refine WC.exit ?_
      (clear hK; refine hK _ _ ?_; clear hK)
      refine WC.seq fun K hK => ?_
      refine WC.region rfl ?_
      refine wMS rfl rfl rfl rfl rfl ?_
      refine wAS rfl rfl rfl rfl rfl ?_
      refine wAI rfl rfl rfl rfl rfl ?_
      refine WL.nil (hK _ _ ?_); clear hK
      refine WC.ret ?_
      exact fun w' hw' => ⟨_, _, rfl, hw'.sub (.cons_cons _ (.cons _ .slnil)), A1, c1, rfl, rfl⟩
end Go.Proofs.YtdcijljfgcjelaaGreat
namespace Go.Proofs.YtdcijljfgcjelaaGreat
set_option maxRecDepth 20000
open Go.RowKit
attribute [local irreducible] Calls
theorem kvs_put {l : List Blk} {k i : Nat} {b : Blk} {v : List Value} (hk : k < l.length) (hi : i = k * 8) (hv : v = b.cells) : spl (kvs l) i v = kvs (l.set k b) := by
  rw [hi, hv]; exact flat_set blk8 (Blk.len b) hk
structure Chg where
  s : Int
  b : Blk
instance : Inhabited Chg := ⟨⟨0, 0⟩⟩
def Chg.cells (x : Chg) : List Value := iv x.s :: x.b.cells
def Chg.ok (x : Chg) : Prop := -9223372036854775808 ≤ x.s ∧ x.s ≤ 9223372036854775807
theorem chg9 {l : List Chg} : ∀ x ∈ l, (Chg.cells x).length = 9 := fun x _ => by rw [Chg.cells, List.length_cons, Blk.len]
theorem Chg.len (x : Chg) : x.cells.length = 9 := by rw [Chg.cells, List.length_cons, Blk.len]
theorem sz9 (x : Chg) : szT Tryz.prog 55 = some x.cells.length := by rw [Chg.len]; rfl
theorem sz9r (x : Chg) : szT Tryz.prog 54 = some x.cells.length := by rw [Chg.len]; rfl
theorem Chg.one (x : Chg) : ∀ u ∈ x.cells, u.oneCell' = true := fun u h => by
  rcases List.mem_cons.1 h with rfl | h
  · rfl
  · exact x.b.one u h
abbrev cvs (l : List Chg) : List Value := l.flatMap Chg.cells
theorem chg_row {l : List Chg} {k : Nat} (hk : k < l.length) : ∀ j u, (nth l k).cells[j]? = some u → (cvs l)[k * 9 + j]? = some u := fun j u h => flat_row chg9 hk j u h
theorem Chg.atb (x : Chg) (j : Nat) (u : Value) (h : x.b.cells[j]? = some u) : x.cells[1 + j]? = some u := by rw [Nat.add_comm, Chg.cells, List.getElem?_cons_succ]; exact h
def badC (m : Int) (x : Chg) : Bool := decide (x.s < 0 ∨ m - 3 ≤ x.s)
section
variable {w : World} {b : Nat} {m : Int}
set_option maxHeartbeats 1000000 in
theorem cpred_e (hm : 0 ≤ m ∧ m ≤ 1000) (hc : w.cell? ⟨b, 0, none⟩ = some (iv m)) (x : Chg) (w' : World) (hb : Below w.heap.size w w') : Calls Tryz.prog 96 #[.agg x.cells.toArray, cellPtr (some ⟨b, 0, none⟩) 0] w' fun e w2 => e = .returned (.bool (badC m x)) ∧ Below w'.heap.size w' w2 := by
  have h1 := kept_cell hb hc
  have g0 : x.cells[0 + (0 + 0)]? = some (iv x.s) := rfl
  have hsub : IntKind.i64.wrap (m - 3) = m - 3 := IntWalk.i64_in _ (by omega)
  by_cases h : x.s < 0
  · rw [show badC m x = true from decide_eq_true (.inl h)]
    refine calls_wc (args := [.agg x.cells.toArray, cellPtr (some ⟨b, 0, none⟩) 0]) [3] [] Tryz.func96 rfl Tryz.ntmps96 rfl rfl rfl rfl (H.refl _) ?_
    refine WC.seq fun K hK => ?_
    refine WC.region rfl ?_
    refine WL.want rfl (WL1.box rfl rfl (.mk (v := .agg _) rfl rfl) rfl (fun b2 => ?_))
    refine wAB rfl rfl rfl rfl rfl ?_
    refine WL.nil (hK _ _ ?_); clear hK
    refine WC.seq fun K hK => ?_
    refine WC.region rfl ?_
    refine wG rfl rfl (g_fieldAddr (off := 0) rfl (.mk rfl rfl) rfl (fun _ _ => rfl)) ?_
    refine wG rfl rfl (g_load rfl (.mk rfl rfl) rfl (rd_pt (by repeat (first | exact .head _ | apply List.Mem.tail)) g0)) ?_
    refine wG rfl rfl (g_lt rfl (.mk rfl rfl) (.mk rfl rfl) (decide_eq_true (by omega))) ?_
    refine wMB rfl rfl rfl rfl rfl ?_
    refine WL.skipG rfl rfl rfl rfl rfl rfl ?_
    refine WL.skipG rfl rfl rfl rfl rfl rfl ?_
    refine WL.skipG rfl rfl rfl rfl rfl rfl ?_
    refine WL.skipG rfl rfl rfl rfl rfl rfl ?_
    refine WL.skipG rfl rfl rfl rfl rfl rfl ?_
    refine wG rfl rfl (g_pickT rfl (.mk rfl rfl) (.mk (v := .bool _) rfl rfl)) ?_
    refine wAB rfl rfl rfl rfl rfl ?_
    refine WL.nil (hK _ _ ?_); clear hK
    refine WC.ret ?_
    exact fun w' hw' => ⟨rfl, hw'.1⟩
  · by_cases h2 : m - 3 ≤ x.s
    · rw [show badC m x = true from decide_eq_true (.inr h2)]
      refine calls_wc (args := [.agg x.cells.toArray, cellPtr (some ⟨b, 0, none⟩) 0]) [3] [] Tryz.func96 rfl Tryz.ntmps96 rfl rfl rfl rfl (H.refl _) ?_
      refine WC.seq fun K hK => ?_
      refine WC.region rfl ?_
      refine WL.want rfl (WL1.box rfl rfl (.mk (v := .agg _) rfl rfl) rfl (fun b2 => ?_))
      refine wAB rfl rfl rfl rfl rfl ?_
      refine WL.nil (hK _ _ ?_); clear hK
      refine WC.seq fun K hK => ?_
      refine WC.region rfl ?_
      refine wG rfl rfl (g_fieldAddr (off := 0) rfl (.mk rfl rfl) rfl (fun _ _ => rfl)) ?_
      refine wG rfl rfl (g_load rfl (.mk rfl rfl) rfl (rd_pt (by repeat (first | exact .head _ | apply List.Mem.tail)) g0)) ?_
      refine wG rfl rfl (g_lt rfl (.mk rfl rfl) (.mk rfl rfl) (decide_eq_false (by omega))) ?_
      refine wMB rfl rfl rfl rfl rfl ?_
      refine WL.wantG rfl rfl rfl rfl (WL1.give rfl (g_fieldAddr (off := 0) rfl (.mk rfl rfl) rfl (fun _ _ => rfl)) ?_)
      refine WL.wantG rfl rfl rfl rfl (WL1.give rfl (g_load rfl (.mk rfl rfl) rfl (rd_pt (by repeat (first | exact .head _ | apply List.Mem.tail)) g0)) ?_)
      refine WL.wantG rfl rfl rfl rfl (WL1.give rfl (g_load rfl (.mk rfl rfl) rfl (rd_wb h1)) ?_)
      refine WL.wantG rfl rfl rfl rfl (WL1.give rfl (g_sub rfl (.mk rfl rfl) (.mk rfl rfl) hsub) ?_)
      refine WL.wantG rfl rfl rfl rfl (WL1.give rfl (g_ge rfl (.mk rfl rfl) (.mk rfl rfl) (decide_eq_true (by omega))) ?_)
      refine wG rfl rfl (g_pickF rfl (.mk rfl rfl) (.mk (v := .bool _) rfl rfl)) ?_
      refine wAB rfl rfl rfl rfl rfl ?_
      refine WL.nil (hK _ _ ?_); clear hK
      refine WC.ret ?_
      exact fun w' hw' => ⟨rfl, hw'.1⟩
    · rw [show badC m x = false from decide_eq_false (by omega)]
      refine calls_wc (args := [.agg x.cells.toArray, cellPtr (some ⟨b, 0, none⟩) 0]) [3] [] Tryz.func96 rfl Tryz.ntmps96 rfl rfl rfl rfl (H.refl _) ?_
      refine WC.seq fun K hK => ?_
      refine WC.region rfl ?_
      refine WL.want rfl (WL1.box rfl rfl (.mk (v := .agg _) rfl rfl) rfl (fun b2 => ?_))
      refine wAB rfl rfl rfl rfl rfl ?_
      refine WL.nil (hK _ _ ?_); clear hK
      refine WC.seq fun K hK => ?_
      refine WC.region rfl ?_
      refine wG rfl rfl (g_fieldAddr (off := 0) rfl (.mk rfl rfl) rfl (fun _ _ => rfl)) ?_
      refine wG rfl rfl (g_load rfl (.mk rfl rfl) rfl (rd_pt (by repeat (first | exact .head _ | apply List.Mem.tail)) g0)) ?_
      refine wG rfl rfl (g_lt rfl (.mk rfl rfl) (.mk rfl rfl) (decide_eq_false (by omega))) ?_
      refine wMB rfl rfl rfl rfl rfl ?_
      refine WL.wantG rfl rfl rfl rfl (WL1.give rfl (g_fieldAddr (off := 0) rfl (.mk rfl rfl) rfl (fun _ _ => rfl)) ?_)
      refine WL.wantG rfl rfl rfl rfl (WL1.give rfl (g_load rfl (.mk rfl rfl) rfl (rd_pt (by repeat (first | exact .head _ | apply List.Mem.tail)) g0)) ?_)
      refine WL.wantG rfl rfl rfl rfl (WL1.give rfl (g_load rfl (.mk rfl rfl) rfl (rd_wb h1)) ?_)
      refine WL.wantG rfl rfl rfl rfl (WL1.give rfl (g_sub rfl (.mk rfl rfl) (.mk rfl rfl) hsub) ?_)
      refine WL.wantG rfl rfl rfl rfl (WL1.give rfl (g_ge rfl (.mk rfl rfl) (.mk rfl rfl) (decide_eq_false (by omega))) ?_)
      refine wG rfl rfl (g_pickF rfl (.mk rfl rfl) (.mk (v := .bool _) rfl rfl)) ?_
      refine wAB rfl rfl rfl rfl rfl ?_
      refine WL.nil (hK _ _ ?_); clear hK
      refine WC.ret ?_
      exact fun w' hw' => ⟨rfl, hw'.1⟩
end
set_option maxHeartbeats 1000000 in
theorem cindex_e (v : Value) (l : List Chg) (b : Nat) (m : Int) (w : World) (hm0 : 0 ≤ m ∧ m ≤ 1000) (hv : Sl w 9 v l.length (cvs l)) (hc : w.cell? ⟨b, 0, none⟩ = some (iv m)) :
    Calls Tryz.prog 144 #[v, .func (.func 96) #[] #[cellPtr (some ⟨b, 0, none⟩) 0]] w fun e w' => e = .returned (iv (gfz (gfnd (fun k => badC m (nth l k)) l.length))) ∧ Below w.heap.size w w' := by
  obtain ⟨A, cc, rfl, hcc, hm, hs⟩ := hv.open_
  unfold maxLen at hm
  refine calls_wc (args := [.slice A l.length cc, .func (.func 96) #[] #[cellPtr (some ⟨b, 0, none⟩) 0]]) [4] [] Tryz.func144 rfl Tryz.ntmps144 rfl rfl rfl rfl (H.refl _) ?_
  refine WC.seq fun K hK => ?_
  refine WC.region rfl ?_
  refine wAI rfl rfl rfl rfl rfl ?_
  refine WL.nil (hK _ _ ?_); clear hK
  refine WC.seq fun K hK => ?_
  refine WC.seq fun K hK => ?_
  refine WC.region rfl ?_
  refine wMS rfl rfl rfl rfl rfl ?_
  refine wG rfl rfl (g_len rfl (.mk rfl rfl) rfl) ?_
  refine wMI rfl rfl rfl rfl rfl ?_
  refine WL.nil (hK _ _ ?_); clear hK
  refine WC.block ?_
  refine WC.loopF (fun k : Nat => [(8, iv k), (7, iv l.length), (0, .slice A l.length cc), (1, .func (.func 96) #[] #[cellPtr (some ⟨b, 0, none⟩) 0])]) (fun _ => []) (fun k => k ≤ l.length ∧ ∀ j, j < k → badC m (nth l j) = false) (fun k => l.length - k) 0 (by repeat (first | exact trivial | refine ⟨rfl, ?_⟩)) (Imp.nil _) ⟨by omega, fun j hj => absurd hj (by omega)⟩ ?_
  rintro k U ⟨hk, hq⟩
  by_cases hlt : k < l.length
  · have hgd := chg_row (l := l) (k := k) hlt
    have hcl := fun w' hb => cpred_e (w := w) hm0 hc (nth l k) w' hb
    cases hz : badC m (nth l k) with
    | false =>
      rw [hz] at hcl
      refine WC.seq fun K hK => ?_
      refine WC.region rfl ?_
      refine wG rfl rfl (g_lt rfl (.mk rfl rfl) (.mk rfl rfl) (decide_eq_true (by omega))) ?_
      refine WL.nil (hK _ _ ?_); clear hK
      refine WC.seq fun K hK => ?_
      refine WC.cond_true (.mk rfl rfl) ?_
      refine WC.skip ?_
      (refine hK _ _ ?_; clear hK)
      refine WC.seq fun K hK => ?_
      refine WC.block ?_
      refine WC.seq fun K hK => ?_
      refine WC.region rfl ?_
      refine wMI rfl rfl rfl rfl rfl ?_
      refine wAI rfl rfl rfl rfl rfl ?_
      refine WL.nil (hK _ _ ?_); clear hK
      refine WC.seq fun K hK => ?_
      refine WC.region rfl ?_
      refine wG rfl rfl (g_move rfl (.mk (v := .func _ _ _) rfl rfl)) ?_
      refine wMS rfl rfl rfl rfl rfl ?_
      refine wMI rfl rfl rfl rfl rfl ?_
      refine wG rfl rfl (g_indexAddr (sz := 9) rfl (.mk rfl rfl) (.mk rfl rfl) rfl rfl rfl (by omega) (fun _ _ => sl_some hs (by omega))) ?_
      refine wG rfl rfl (g_loadA rfl (.mk rfl rfl) rfl (sz9 _) (rdr_sl hs (by omega) hgd)) ?_
      refine WL.want rfl (WL1.callVP rfl rfl (.mk rfl rfl) (by first | assumption | rfl) (.cons (.mk (v := .agg _) rfl rfl) .nil) (fun w hw => hcl w hw.1) ?_)
      refine WL.nil (hK _ _ ?_); clear hK
      refine WC.cond_false (.mk rfl rfl) ?_
      refine WC.skip ?_
      (refine hK _ _ ?_; clear hK)
      refine WC.region rfl ?_
      refine wG rfl rfl (g_add rfl (.mk rfl rfl) (.mk rfl rfl) (IntWalk.i64_in _ (by omega))) ?_
      refine wMI rfl rfl rfl rfl rfl ?_
      refine WL.nil ?_
      refine ⟨k + 1, (by repeat (first | exact trivial | refine ⟨rfl, ?_⟩)), .refl _, ⟨by omega, fun j hj => ?_⟩, by omega⟩
      by_cases e : j = k
      · rw [e]; exact hz
      · exact hq j (by omega)
    | true =>
      rw [hz] at hcl
      refine WC.seq fun K hK => ?_
      refine WC.region rfl ?_
      refine wG rfl rfl (g_lt rfl (.mk rfl rfl) (.mk rfl rfl) (decide_eq_true (by omega))) ?_
      refine WL.nil (hK _ _ ?_); clear hK
      refine WC.seq fun K hK => ?_
      refine WC.cond_true (.mk rfl rfl) ?_
      refine WC.skip ?_
      (refine hK _ _ ?_; clear hK)
      refine WC.seq fun K hK => ?_
      refine WC.block ?_
      refine WC.seq fun K hK => ?_
      refine WC.region rfl ?_
      refine wMI rfl rfl rfl rfl rfl ?_
      refine wAI rfl rfl rfl rfl rfl ?_
      refine WL.nil (hK _ _ ?_); clear hK
      refine WC.seq fun K hK => ?_
      refine WC.region rfl ?_
      refine wG rfl rfl (g_move rfl (.mk (v := .func _ _ _) rfl rfl)) ?_
      refine wMS rfl rfl rfl rfl rfl ?_
      refine wMI rfl rfl rfl rfl rfl ?_
      refine wG rfl rfl (g_indexAddr (sz := 9) rfl (.mk rfl rfl) (.mk rfl rfl) rfl rfl rfl (by omega) (fun _ _ => sl_some hs (by omega))) ?_
      refine wG rfl rfl (g_loadA rfl (.mk rfl rfl) rfl (sz9 _) (rdr_sl hs (by omega) hgd)) ?_
      refine WL.want rfl (WL1.callVP rfl rfl (.mk rfl rfl) (by first | assumption | rfl) (.cons (.mk (v := .agg _) rfl rfl) .nil) (fun w hw => hcl w hw.1) ?_)
      refine WL.nil (hK _ _ ?_); clear hK
      refine WC.cond_true (.mk rfl rfl) ?_
      refine WC.seq fun K hK => ?_
      refine WC.region rfl ?_
      refine wMI rfl rfl rfl rfl rfl ?_
      refine wAI rfl rfl rfl rfl rfl ?_
      refine WL.nil (hK _ _ ?_); clear hK
      refine WC.ret ?_
      exact fun w' hw' => ⟨by rw [gfnd_eq (p := fun k => badC m (nth l k)) hlt hz hq]; rfl, hw'.1⟩
  · obtain rfl : k = l.length := by omega
    refine WC.seq fun K hK => ?_
    refine WC.region rfl ?_
    refine wG rfl rfl (g_lt rfl (.mk rfl rfl) (.mk rfl rfl) (decide_eq_false (by omega))) ?_
    refine WL.nil (hK _ _ ?_); clear hK
    refine WC.seq fun K hK => ?_
    refine WC.cond_false (.mk rfl rfl) ?_
    refine WC.exit ?_
    (clear hK; refine hK _ _ ?_; clear hK)
    refine WC.seq fun K hK => ?_
    refine WC.region rfl ?_
    refine wAI rfl rfl rfl rfl rfl ?_
    refine WL.nil (hK _ _ ?_); clear hK
    refine WC.ret ?_
    exact fun w' hw' => ⟨by rw [gfnd_all hq]; rfl, hw'.1⟩
set_option maxHeartbeats 1000000 in
theorem ccontains_e (v : Value) (l : List Chg) (b : Nat) (m : Int) (w : World) (hm0 : 0 ≤ m ∧ m ≤ 1000) (hv : Sl w 9 v l.length (cvs l)) (hc : w.cell? ⟨b, 0, none⟩ = some (iv m)) :
    Calls Tryz.prog 95 #[v, .func (.func 96) #[] #[cellPtr (some ⟨b, 0, none⟩) 0]] w fun e w' => e = .returned (.bool (gfnd (fun k => badC m (nth l k)) l.length).isSome) ∧ Below w.heap.size w w' := by
  have hix := fun w' (hb : Below w.heap.size w w') => cindex_e v l b m w' hm0 (hv.below hb) (kept_cell hb hc)
  obtain ⟨o, ho⟩ : ∃ o, o = gfnd (fun k => badC m (nth l k)) l.length := ⟨_, rfl⟩
  rw [← ho] at hix ⊢
  have hb := gfz_ge o
  refine calls_wc (args := [v, .func (.func 96) #[] #[cellPtr (some ⟨b, 0, none⟩) 0]]) [4] [] Tryz.func95 rfl Tryz.ntmps95 rfl rfl rfl rfl (H.refl _) ?_
  refine WC.seq fun K hK => ?_
  refine WC.region rfl ?_
  refine wAB rfl rfl rfl rfl rfl ?_
  refine WL.nil (hK _ _ ?_); clear hK
  refine WC.seq fun K hK => ?_
  refine WC.region rfl ?_
  refine wG rfl rfl (g_move rfl (.mk rfl (by conv => lhs; whnf))) ?_
  refine wG rfl rfl (g_move rfl (.mk (v := .func _ _ _) rfl rfl)) ?_
  refine WL.want rfl (WL1.callP rfl rfl rfl (.cons (.mk rfl (by conv => lhs; whnf)) (.cons (.mk (v := .func _ _ _) rfl rfl) .nil)) (fun w hw => hix w hw.1) ?_)
  refine wG rfl rfl (g_ge rfl (.mk rfl rfl) (.mk rfl rfl) hb) ?_
  refine wAB rfl rfl rfl rfl rfl ?_
  refine WL.nil (hK _ _ ?_); clear hK
  refine WC.ret ?_
  exact fun w' hw' => ⟨rfl, hw'.1⟩
def okC (m : Int) (l : List Chg) : Bool := !(gfnd (fun k => badC m (nth l k)) l.length).isSome
set_option maxHeartbeats 1000000 in
theorem changes_e (v : Value) (l : List Chg) (m : Int) (w : World) (hm0 : 0 ≤ m ∧ m ≤ 1000) (hv : Sl w 9 v l.length (cvs l)) :
    Calls Tryz.prog 48 #[iv m, v] w fun e w' => e = .returned (.bool (okC m l)) ∧ Below w.heap.size w w' := by
  obtain ⟨A, cc, rfl, hcc, hm, hs⟩ := hv.open_
  refine calls_wc (args := [iv m, .slice A l.length cc]) [4] [] Tryz.func48 rfl Tryz.ntmps48 rfl rfl rfl rfl (H.refl _) ?_
  refine WC.seq fun K hK => ?_
  refine WC.region rfl ?_
  refine WL.want rfl (WL1.box rfl rfl (.mk (v := .int _ _) rfl rfl) rfl (fun b2 => ?_))
  refine wAB rfl rfl rfl rfl rfl ?_
  refine WL.nil (hK _ _ ?_); clear hK
  refine WC.seq fun K hK => ?_
  refine WC.region rfl ?_
  refine wMS rfl rfl rfl rfl rfl ?_
  refine wG rfl rfl (g_makeFunc rfl (.cons (.mk (v := cellPtr _ _) rfl rfl) .nil)) ?_
  refine WL.want rfl (WL1.callP rfl rfl rfl (.cons (.mk (v := .slice _ _ _) rfl rfl) (.cons (.mk (v := .func _ _ _) rfl rfl) .nil)) (fun w hw => ccontains_e _ l b2 m w hm0 (hs.below hw.1) (cell_pt hw (by repeat (first | exact .head _ | apply List.Mem.tail)) rfl)) ?_)
  refine wG rfl rfl (g_not rfl (.mk rfl rfl)) ?_
  refine wAB rfl rfl rfl rfl rfl ?_
  refine WL.nil (hK _ _ ?_); clear hK
  refine WC.ret ?_
  exact fun w' hw' => ⟨rfl, hw'.1⟩
theorem okC_each {m : Int} {l : List Chg} (h : okC m l = true) {k : Nat} (hk : k < l.length) : 0 ≤ (nth l k).s ∧ (nth l k).s < m - 3 := by
  have : gfnd (fun k => badC m (nth l k)) l.length = none := by
    unfold okC at h
    cases e : gfnd (fun k => badC m (nth l k)) l.length with
    | none => rfl
    | some j => rw [e] at h; cases h
  have := gfnd_none this k hk
  have := of_decide_eq_false this
  omega
def datP (ds : List Blk) (l : List Chg) : Nat → List Blk
  | 0 => ds
  | i + 1 => (datP ds l i).set (nth l i).s.toNat (nth l i).b
theorem datP_len (ds : List Blk) (l : List Chg) : ∀ i, (datP ds l i).length = ds.length
  | 0 => rfl
  | i + 1 => by rw [datP, List.length_set, datP_len ds l i]
def apL (ps : List Blk) (l : List Chg) : List Blk := datP (ps.take (ps.length - 3)) l l.length ++ enc (datP (ps.take (ps.length - 3)) l l.length)
def difP (qs ps : List Blk) (i : Nat) : Bool := decide (nth qs i ≠ nth ps i)
end Go.Proofs.YtdcijljfgcjelaaGreat
namespace Go.Proofs.YtdcijljfgcjelaaGreat
set_option maxRecDepth 20000
open Go.RowKit
attribute [local irreducible] Calls
theorem elC : Elem Tryz.prog 52 55 (.agg (iv 0 :: z8).toArray) 9 16 := ⟨rfl, rfl, rfl, by omega⟩
theorem zeros_made (m : Nat) : (madeCells (Value.agg z8.toArray).cells (m * 8)).toList = kvs (List.replicate m 0) := by
  have key : ∀ m, (List.range (m * 8)).map (fun i => z8.toArray[i % 8]!) = kvs (List.replicate m 0) := fun m => by
    induction m with
    | zero => rfl
    | succ m ih =>
      rw [Nat.succ_mul, List.range_add, List.map_append, ih, List.replicate_succ', ← kvs_app]
      congr 1
      rw [List.map_map]
      refine (List.map_congr_left (g := fun x => z8.toArray[x % 8]!) fun x _ => ?_).trans rfl
      show z8.toArray[(m * 8 + x) % 8]! = _
      rw [Nat.mul_add_mod_self_right]
  rw [made_cells]
  exact key m
theorem reads_k {w : World} {A B : Option Addr} {c d N m t : Nat} {zm : Int} {T : List Int} {bs : List Bool} {out : List Nat} (hzm : zm = (m : Int)) (hbl : bs.length = m) (ht : T.length = t) (hN : m = N + 3) (h1 : 1 ≤ N) (h2 : N ≤ 13) (hT : ∀ i, i < T.length → okT m T i) (h0 : 0 < t) (hT2 : t ≤ 1000000)
    (hb3 : (numL (fun i => nth bs i) m).length ≤ 3) (hg : N ≤ (numL (gP bs) m).length) (ho : (o3 N T bs).getD [] = out) (hs : Sl w 1 (.slice A t c) t (ivs T)) (hsb : Sl w 1 (.slice B m d) m (bls bs)) :
    Calls Tryz.prog 15 #[iv zm, .slice A t c, .slice B m d] w fun e w' => ∃ v' M, e = .returned v' ∧ H w M w' ∧ ∃ A1 c1, v' = .tuple #[.slice A1 out.length c1, iv 0] ∧ M = [vec A1 out.length c1 3 1 (ldv out)] := by
  subst hzm; subst hbl; subst ht; subst ho
  exact reads_n hN h1 h2 hs hsb hT h0 hT2 hb3 hg
theorem bls_made (m : Nat) : (madeCells (Value.bool false).cells (m * 1)).toList = bls (List.replicate m false) := by
  rw [show (Value.bool false).cells = #[.bool false] from rfl, made_one]; simp [bls]
end Go.Proofs.YtdcijljfgcjelaaGreat
