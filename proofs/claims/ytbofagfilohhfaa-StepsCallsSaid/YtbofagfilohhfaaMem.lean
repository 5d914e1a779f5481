/- Words for memory: a slice that reads as a list, rows of the call's own, and what becomes of them. Over any program. No condition. -/
import Derived.WalkKit
import Derived.WalkSpells
import Derived.WalkLawsBesides
import Derived.StillTailTactics
import Derived.Deep.QuietTactic
import Derived.BigQuiet
import Derived.Lib.Hide
import Derived.Deep.Draws
import Derived.Deep.RegionHeld3
import Derived.Maps.AppendAt
import Derived.Laws.BytesString
namespace Go.Proofs.Ytbofagfilohhfaa
set_option maxRecDepth 20000
open Go.RowKit

theorem addBlock (a : Addr) (n : Nat) : (a.add n).block = a.block := by unfold Addr.add; split <;> rfl
theorem addAdd (a : Addr) (i j : Nat) : (a.add i).add j = a.add (i + j) := by
  unfold Addr.add
  by_cases hi : i = 0 <;> by_cases hj : j = 0 <;> simp [hi, hj, Nat.add_assoc]
/-- The cells from ad on read as xs. -/
def Cells (w : World) (ad : Addr) (xs : List Value) : Prop := ∀ j u, xs[j]? = some u → w.cell? (ad.add j) = some u
/-- v is a slice of n elements of sz cells; it reads as xs. -/
def Sl (w : World) (sz : Nat) (v : Value) (n : Nat) (xs : List Value) : Prop :=
  xs.length = n * sz ∧ ∃ A c, v = .slice A n c ∧ n ≤ c ∧ c ≤ maxLen ∧ (0 < n → ∃ ad, A = some ad ∧ ad.block < w.heap.size ∧ Cells w ad xs)
section
variable {w w' : World} {sz n : Nat} {v : Value} {xs : List Value}
theorem Cells.below {ad : Addr} (h : Cells w ad xs) (hb : Below w.heap.size w w') (hl : ad.block < w.heap.size) : Cells w' ad xs :=
  fun j u hu => (hb.cell (by rw [addBlock]; exact hl)).trans (h j u hu)
theorem Sl.below (h : Sl w sz v n xs) (hb : Below w.heap.size w w') : Sl w' sz v n xs := by
  obtain ⟨h1, A, c, h2, h3, h4, h5⟩ := h
  refine ⟨h1, A, c, h2, h3, h4, fun hn => ?_⟩
  obtain ⟨ad, e, hl, hc⟩ := h5 hn
  exact ⟨ad, e, Nat.lt_of_lt_of_le hl hb.size, hc.below hb hl⟩
theorem Sl.of_own {base : Nat} {e : TypeId} (h : w.ownsRow base e sz v n xs) : Sl w sz v n xs := by
  refine ⟨h.1, ?_⟩
  rcases h.2 with ⟨rfl, rfl⟩ | ⟨g, cap, cur, rfl, hb, hh, hnc, hcm, hs, ht⟩
  · exact ⟨none, 0, rfl, Nat.le_refl _, Nat.zero_le _, fun h => absurd h (by omega)⟩
  · refine ⟨some ⟨g, 0, none⟩, cap, rfl, hnc, hcm, fun _ => ⟨_, rfl, (Array.getElem?_eq_some_iff.1 hh).1, ?_⟩⟩
    exact h.cells rfl
theorem Sl.nil (w : World) (sz : Nat) : Sl w sz (.slice none 0 0) 0 [] := ⟨by simp, none, 0, rfl, Nat.le_refl _, Nat.zero_le _, fun h => absurd h (by omega)⟩
theorem Sl.open_ (h : Sl w sz v n xs) : ∃ A c, v = .slice A n c ∧ n ≤ c ∧ c ≤ maxLen ∧ Sl w sz (.slice A n c) n xs := by
  obtain ⟨h1, A, c, rfl, h3, h4, h5⟩ := h
  exact ⟨A, c, rfl, h3, h4, h1, A, c, rfl, h3, h4, h5⟩
theorem Sl.len_le (h : Sl w sz v n xs) : n ≤ 9223372036854775807 := by
  obtain ⟨h1, A, c, rfl, h3, h4, h5⟩ := h
  unfold maxLen at h4
  omega
theorem Sl.at_ {A : Option Addr} {m c k : Nat} (h : Sl w 1 (.slice A m c) n xs) (hk : k < n) :
    ∃ ad u, A = some ad ∧ xs[k]? = some u ∧ ad.block < w.heap.size ∧ w.cell? (ad.add k) = some u := by
  obtain ⟨h1, A', c', h2, h3, h4, h5⟩ := h
  obtain ⟨ad, rfl, hl, hc⟩ := h5 (by omega)
  injection h2 with e1 e2 e3
  have hlen : k < xs.length := by omega
  exact ⟨ad, xs[k], e1, List.getElem?_eq_getElem hlen, hl, hc k _ (List.getElem?_eq_getElem hlen)⟩
end
/-- What is known of an element type and its slices. -/
structure Elem (P : Program) (t e : TypeId) (z : Value) (size bytes : Nat) : Prop where
  ht : P.underlying t = some (.slice e)
  hi : (P.info? e).map (fun i => (i.zero, i.size, i.bytes)) = some (some z, size, bytes)
  hzs : z.cells.size = size
  hsz : 0 < size
section
variable {P : Program} {t e : TypeId} {z : Value} {size bytes : Nat}
theorem wpList_make (E : Elem P t e z size bytes) {w : World} {ops : Array Oper} {rest : List Oper} {o : Oper} {a : Act} {Q : Exit → Act → World → Prop}
    (hg : o.guard = none) (l c : Operand) (hop : o.op = Op.makeSlice t l c)
    (kl kc : IntKind) (n : Nat) (hl : a.eval l = .int kl (n : Int)) (hc : a.eval c = .int kc (n : Int)) (b2 : bytes * n ≤ 281474976710656) (b3 : n ≤ maxLen)
    (hK : ∀ w', w'.ownsRow w.heap.size e size (.slice (some ⟨w.heap.size, 0, none⟩) n n) n (madeCells z.cells (n * size)).toList → Below w.heap.size w w' → wpList P ops Q rest (a.put o.dst (.slice (some ⟨w.heap.size, 0, none⟩) n n)) w') :
    wpList P ops Q (o :: rest) a w := by
  obtain ⟨i, hi, h1, h2, h3⟩ := info_parts E.hi
  exact wpList_make_full w hg l c t hop w.heap.size e i z size E.ht hi h1 h2 kl kc n n n hl hc rfl rfl (by rw [h3]; exact b2) b3 (Nat.le_refl _)
    fun w' h4 h5 => hK w' h4 ((Below.refl _ _).grown h5 (Nat.le_refl _) (fun k hk => by cases hk))
end
theorem run_append_nil_src {P : Program} (w : World) (base : Nat) (t ty e : TypeId) (i : TypeInfo) (size : Nat) (ht : P.underlying t = some (.slice e)) (hi : P.info? e = some i)
    (v : Value) (n : Nat) (xs : List Value) (hown : w.ownsRow base e size v n xs) (c : Nat) : (Builtin.append_ #[t, t] ty #[v, .slice none 0 c]).run P w = .ok v w := by
  rcases hown.2 with ⟨rfl, rfl⟩ | ⟨g, cap, cur, rfl, _, _, hnc, _⟩
  · simp [Builtin.append_, run_underlying ht, sizeOf, typeInfo, hi, Builtin.lenOf, Builtin.firstCells]
  · simp [Builtin.append_, run_underlying ht, sizeOf, typeInfo, hi, Builtin.lenOf, Builtin.firstCells, hnc, storeCells]
section
variable {P : Program} {t e : TypeId} {z : Value} {size bytes : Nat}
theorem run_append_sl (E : Elem P t e z size bytes) (w : World) (B : Nat) (ty : TypeId) (v : Value) (n : Nat) (xs : List Value) (hown : w.ownsRow B e size v n xs)
    (src : Value) (m : Nat) (news : List Value) (hsl : Sl w size src m news) (h1 : ∀ u ∈ news, u.oneCell' = true)
    (h63 : n + m ≤ maxLen) (hbytes : (n + m) * bytes ≤ 140737488355328) (hB : B ≤ w.heap.size) :
    ∃ v' w', (Builtin.append_ #[t, t] ty #[v, src]).run P w = .ok v' w' ∧ w'.ownsRow B e size v' (n + m) (xs ++ news) ∧ w.grownBy w' v.ownBlock ∧
      (v'.ownBlock = v.ownBlock ∨ v'.ownBlock = some w.heap.size) ∧ Below B w w' := by
  obtain ⟨i, hi, e1, e2, e3⟩ := info_parts E.hi
  have hbel : ∀ w', w.grownBy w' v.ownBlock → Below B w w' := fun w' hg => (Below.refl _ _).grown hg hB fun k hk => (hown.lt k hk).1
  obtain ⟨h0, A, c, rfl, hc, hm, hcell⟩ := hsl
  have nil_case : m = 0 → news = [] := fun h => List.eq_nil_of_length_eq_zero (by rw [h0, h, Nat.zero_mul])
  rcases A with _ | ad
  · have hm0 : m = 0 := by
      rcases Nat.eq_zero_or_pos m with h | h
      · exact h
      · obtain ⟨ad, h', _⟩ := hcell h
        cases h'
    have hn := nil_case hm0
    subst hm0
    subst hn
    exact ⟨v, w, run_append_nil_src w B t ty e i size E.ht hi v n xs hown c, by simpa using hown, World.grownBy.refl w _, .inl rfl, Below.refl _ _⟩
  · have hcs : ∀ j u, news[j]? = some u → w.cell? (ad.add j) = some u := by
      intro j u hu
      rcases Nat.eq_zero_or_pos m with h | h
      · rw [nil_case h] at hu; simp at hu
      · obtain ⟨ad', h', _, hcl⟩ := hcell h
        injection h' with h'
        subst h'
        exact hcl j u hu
    obtain ⟨v', w', hrun, h2, h3, _, h5⟩ := run_append_own_at (P := P) w B t ty e i z size bytes E.ht hi e1 e2 e3 E.hzs E.hsz v n xs hown ad m c news h0 hcs h1 h63 hbytes hB
    exact ⟨v', w', hrun, h2, h3, h5, hbel w' h3⟩
theorem wpList_append (E : Elem P t e z size bytes) {w : World} {ops : Array Oper} {rest : List Oper} {o : Oper} {a : Act} {Q : Exit → Act → World → Prop} (hgd : o.guard = none) (s x : Operand)
    (ho : o.op = .call { callee := .builtin .append, args := #[s, x], argTypes := #[t, t] })
    (B : Nat) (v : Value) (n : Nat) (xs : List Value) (hs : a.eval s = v) (hown : w.ownsRow B e size v n xs)
    (src : Value) (m : Nat) (news : List Value) (hx : a.eval x = src) (hsl : Sl w size src m news) (h1 : ∀ u ∈ news, u.oneCell' = true)
    (h63 : n + m ≤ maxLen) (hbytes : (n + m) * bytes ≤ 140737488355328) (hB : B ≤ w.heap.size)
    (h : ∀ v' w', w'.ownsRow B e size v' (n + m) (xs ++ news) → w.grownBy w' v.ownBlock → (v'.ownBlock = v.ownBlock ∨ v'.ownBlock = some w.heap.size) → Below B w w' → wpList P ops Q rest (a.put o.dst v') w') :
    wpList P ops Q (o :: rest) a w := by
  refine wpList_plain hgd fun _ hK => ?_
  obtain ⟨v', w', hrun, h2, h3, h4, h5⟩ := run_append_sl (P := P) E w B o.type v n xs hown src m news hsl h1 h63 hbytes hB
  unfold Oper.wp execOp
  simp only [ho, resolve, invoke, builtin, Sem.run_bind, Sem.run_pure, Result.andThen_ok, List.map_toArray, List.map_cons, List.map_nil, hs, hx, hrun]
  exact hK _ _ (h v' w' h2 h3 h4 h5)
theorem step_append (E : Elem P t e z size bytes) {w : World} {ops : Array Oper} {o : Oper} {a : Act} {K : Act → World → Prop} {Q : Exit → Act → World → Prop} {F : Prop} (hgd : o.guard = none) (s x : Operand)
    (ho : o.op = .call { callee := .builtin .append, args := #[s, x], argTypes := #[t, t] })
    (B : Nat) (v : Value) (n : Nat) (xs : List Value) (hs : a.eval s = v) (hown : w.ownsRow B e size v n xs)
    (src : Value) (m : Nat) (news : List Value) (hx : a.eval x = src) (hsl : Sl w size src m news) (h1 : ∀ u ∈ news, u.oneCell' = true)
    (h63 : n + m ≤ maxLen) (hbytes : (n + m) * bytes ≤ 140737488355328) (hB : B ≤ w.heap.size)
    (h : ∀ v' w', w'.ownsRow B e size v' (n + m) (xs ++ news) → w.grownBy w' v.ownBlock → (v'.ownBlock = v.ownBlock ∨ v'.ownBlock = some w.heap.size) → Below B w w' → K (a.put o.dst v') w') :
    if Region.wanted o (yielded ops a.tmps) = true then Oper.wp P o a w K Q else F := by
  rw [if_pos (by simp [Region.wanted, hgd])]
  obtain ⟨v', w', hrun, h2, h3, h4, h5⟩ := run_append_sl (P := P) E w B o.type v n xs hown src m news hsl h1 h63 hbytes hB
  unfold Oper.wp execOp
  simp only [ho, resolve, invoke, builtin, Sem.run_bind, Sem.run_pure, Result.andThen_ok, List.map_toArray, List.map_cons, List.map_nil, hs, hx, hrun]
  exact h v' w' h2 h3 h4 h5
end
/-- What a literal has laid. -/
theorem Sl.lit (w : World) (cs : Array Value) (e : TypeId) (sz n : Nat) (h : cs.size = n * sz) (hm : n ≤ maxLen) : Sl (w.alloc (.cells cs e)) sz (.slice (some ⟨w.heap.size, 0, none⟩) n n) n cs.toList :=
  ⟨by simpa using h, _, n, rfl, Nat.le_refl _, hm, fun _ => ⟨_, rfl, by simp, fun j u hu => by
    have hadd : (⟨w.heap.size, 0, none⟩ : Addr).add j = ⟨w.heap.size, j, none⟩ := by unfold Addr.add; split <;> simp_all
    rw [hadd, cell_of_row (w.alloc (.cells cs e)) w.heap.size j cs e (0, 0) (heap_alloc_new w _)]
    simpa using hu⟩⟩
theorem Sl.lit_ (w : World) (cs : Array Value) (e : TypeId) (sz n g : Nat) (hg : w.heap.size = g) (h : cs.size = n * sz) (hm : n ≤ maxLen) : Sl (w.alloc (.cells cs e)) sz (.slice (some ⟨g, 0, none⟩) n n) n cs.toList := by
  subst hg
  exact Sl.lit w cs e sz n h hm
theorem below_drewN {B : Nat} {a w : World} (h : Below B a w) (n : Nat) : Below B a (w.drewN n) := ⟨h.os, h.tape, h.output, h.size, h.block⟩
theorem below_via {w X w1 : World} (h : Below w.heap.size w X) (hb : Below X.heap.size X w1) : Below w.heap.size w w1 := h.trans (hb.mono h.size)
theorem below_new {w X : World} (h : Below w.heap.size w X) (o : Obj) : Below w.heap.size w (X.alloc o) := h.alloc h.size _
theorem cell_setCell_self {w : World} {p : Addr} {v : Value} (h : (w.cell? p).isSome = true) : (w.setCell p v).cell? p = some v := by
  obtain ⟨u, hu⟩ := Option.isSome_iff_exists.1 h
  exact World.cell?_setCell_same w p v hu
theorem isSome_setCell (w : World) (p q : Addr) (v : Value) : ((w.setCell p v).cell? q).isSome = (w.cell? q).isSome := by
  by_cases h : p = q
  · subst h
    cases hc : w.cell? p with
    | none =>
      cases hd : (w.setCell p v).cell? p with
      | none => rfl
      | some u =>
        exfalso
        unfold World.cell? World.setCell at hd
        unfold World.cell? at hc
        simp only [Array.getElem?_modify, if_true] at hd
        cases hh : w.heap[p.block]? with
        | none => rw [hh] at hd; simp at hd
        | some o =>
          rw [hh] at hd hc
          cases o <;> simp at hd hc
          rename_i c e f
          obtain ⟨h1, h2⟩ := hd
          have h3 := hc h1
          rw [h1] at h2
          simp only [Option.isSome_none, Bool.false_eq_true, if_false] at h2
          rw [Array.getElem?_eq_none (by simpa using h3)] at h2
          cases h2
    | some u => rw [World.cell?_setCell_same w p v hc]; rfl
  · rw [World.cell?_setCell_other w p q v h]
theorem kept_cell {W W' : World} (hb : Below W.heap.size W W') {p : Addr} {v : Value} (h : W.cell? p = some v) : W'.cell? p = some v := (hb.cell (World.block_lt_of_cell? W p h)).trans h
theorem keep1 {W W' : World} {p0 : Addr} {v0 : Value} (hb : Below W.heap.size W W') (h : W.cell? p0 = some v0) : W'.cell? p0 = some v0 := kept_cell hb h
theorem keep2 {W W' : World} {p0 p1 : Addr} {v0 v1 : Value} (hb : Below W.heap.size W W') : (W.cell? p0 = some v0 ∧ W.cell? p1 = some v1) → (W'.cell? p0 = some v0 ∧ W'.cell? p1 = some v1) := fun ⟨h0, h1⟩ => ⟨kept_cell hb h0, kept_cell hb h1⟩
theorem keep3 {W W' : World} {p0 p1 p2 : Addr} {v0 v1 v2 : Value} (hb : Below W.heap.size W W') : (W.cell? p0 = some v0 ∧ W.cell? p1 = some v1 ∧ W.cell? p2 = some v2) → (W'.cell? p0 = some v0 ∧ W'.cell? p1 = some v1 ∧ W'.cell? p2 = some v2) := fun ⟨h0, h1, h2⟩ => ⟨kept_cell hb h0, kept_cell hb h1, kept_cell hb h2⟩
theorem keep4 {W W' : World} {p0 p1 p2 p3 : Addr} {v0 v1 v2 v3 : Value} (hb : Below W.heap.size W W') : (W.cell? p0 = some v0 ∧ W.cell? p1 = some v1 ∧ W.cell? p2 = some v2 ∧ W.cell? p3 = some v3) → (W'.cell? p0 = some v0 ∧ W'.cell? p1 = some v1 ∧ W'.cell? p2 = some v2 ∧ W'.cell? p3 = some v3) := fun ⟨h0, h1, h2, h3⟩ => ⟨kept_cell hb h0, kept_cell hb h1, kept_cell hb h2, kept_cell hb h3⟩
theorem keep5 {W W' : World} {p0 p1 p2 p3 p4 : Addr} {v0 v1 v2 v3 v4 : Value} (hb : Below W.heap.size W W') : (W.cell? p0 = some v0 ∧ W.cell? p1 = some v1 ∧ W.cell? p2 = some v2 ∧ W.cell? p3 = some v3 ∧ W.cell? p4 = some v4) → (W'.cell? p0 = some v0 ∧ W'.cell? p1 = some v1 ∧ W'.cell? p2 = some v2 ∧ W'.cell? p3 = some v3 ∧ W'.cell? p4 = some v4) := fun ⟨h0, h1, h2, h3, h4⟩ => ⟨kept_cell hb h0, kept_cell hb h1, kept_cell hb h2, kept_cell hb h3, kept_cell hb h4⟩
theorem keep6 {W W' : World} {p0 p1 p2 p3 p4 p5 : Addr} {v0 v1 v2 v3 v4 v5 : Value} (hb : Below W.heap.size W W') : (W.cell? p0 = some v0 ∧ W.cell? p1 = some v1 ∧ W.cell? p2 = some v2 ∧ W.cell? p3 = some v3 ∧ W.cell? p4 = some v4 ∧ W.cell? p5 = some v5) → (W'.cell? p0 = some v0 ∧ W'.cell? p1 = some v1 ∧ W'.cell? p2 = some v2 ∧ W'.cell? p3 = some v3 ∧ W'.cell? p4 = some v4 ∧ W'.cell? p5 = some v5) := fun ⟨h0, h1, h2, h3, h4, h5⟩ => ⟨kept_cell hb h0, kept_cell hb h1, kept_cell hb h2, kept_cell hb h3, kept_cell hb h4, kept_cell hb h5⟩
theorem keep7 {W W' : World} {p0 p1 p2 p3 p4 p5 p6 : Addr} {v0 v1 v2 v3 v4 v5 v6 : Value} (hb : Below W.heap.size W W') : (W.cell? p0 = some v0 ∧ W.cell? p1 = some v1 ∧ W.cell? p2 = some v2 ∧ W.cell? p3 = some v3 ∧ W.cell? p4 = some v4 ∧ W.cell? p5 = some v5 ∧ W.cell? p6 = some v6) → (W'.cell? p0 = some v0 ∧ W'.cell? p1 = some v1 ∧ W'.cell? p2 = some v2 ∧ W'.cell? p3 = some v3 ∧ W'.cell? p4 = some v4 ∧ W'.cell? p5 = some v5 ∧ W'.cell? p6 = some v6) := fun ⟨h0, h1, h2, h3, h4, h5, h6⟩ => ⟨kept_cell hb h0, kept_cell hb h1, kept_cell hb h2, kept_cell hb h3, kept_cell hb h4, kept_cell hb h5, kept_cell hb h6⟩
theorem keep8 {W W' : World} {p0 p1 p2 p3 p4 p5 p6 p7 : Addr} {v0 v1 v2 v3 v4 v5 v6 v7 : Value} (hb : Below W.heap.size W W') : (W.cell? p0 = some v0 ∧ W.cell? p1 = some v1 ∧ W.cell? p2 = some v2 ∧ W.cell? p3 = some v3 ∧ W.cell? p4 = some v4 ∧ W.cell? p5 = some v5 ∧ W.cell? p6 = some v6 ∧ W.cell? p7 = some v7) → (W'.cell? p0 = some v0 ∧ W'.cell? p1 = some v1 ∧ W'.cell? p2 = some v2 ∧ W'.cell? p3 = some v3 ∧ W'.cell? p4 = some v4 ∧ W'.cell? p5 = some v5 ∧ W'.cell? p6 = some v6 ∧ W'.cell? p7 = some v7) := fun ⟨h0, h1, h2, h3, h4, h5, h6, h7⟩ => ⟨kept_cell hb h0, kept_cell hb h1, kept_cell hb h2, kept_cell hb h3, kept_cell hb h4, kept_cell hb h5, kept_cell hb h6, kept_cell hb h7⟩
/-- Behind a call: the cells that were there read as they did, and their marks. -/
theorem old_cells {W w1 : World} (hb : Below W.heap.size W w1) : (∀ b o, b < W.heap.size → w1.cell? ⟨b, o, none⟩ = W.cell? ⟨b, o, none⟩) ∧ (∀ b o, b < W.heap.size → w1.frozen? ⟨b, o, none⟩ = W.frozen? ⟨b, o, none⟩) :=
  ⟨fun b o h => hb.cell (p := ⟨b, o, none⟩) h, fun b o h => hb.frozen (p := ⟨b, o, none⟩) h⟩
theorem below_step {w w1 w2 : World} {o : Obj} (h : Below w.heap.size w w1) (k : Below w.heap.size (w1.alloc o) w2) : Below w.heap.size w w2 := (h.alloc h.size _).trans k
theorem below_alloc (w : World) (o : Obj) : Below w.heap.size w (w.alloc o) := (Below.refl _ _).alloc (Nat.le_refl _) _
theorem Sl.alloc {w : World} {sz n : Nat} {v : Value} {xs : List Value} (h : Sl w sz v n xs) (o : Obj) : Sl (w.alloc o) sz v n xs := h.below (below_alloc w o)
theorem made_one (z : Value) (n : Nat) : (madeCells #[z] (n * 1)).toList = List.replicate n z := by rw [Nat.mul_one, toList_madeCells_one]
theorem still_of {P : Program} {f : FuncId} {args : Array Value} {w : World} {v : Value} (h : Calls P f args w fun e w' => e = .returned v ∧ w = w') :
    Calls P f args w fun e w' => e = .returned v ∧ w' = w := h.mono fun _ _ ⟨h1, h2⟩ => ⟨h1, h2.symm⟩
/-- The first k places hold what ys holds there, all others z. -/
def fillv (ys : List Value) (z : Value) (k : Nat) : List Value := ys.take k ++ List.replicate (ys.length - k) z
theorem fillv_zero (ys : List Value) (z : Value) : fillv ys z 0 = List.replicate ys.length z := by simp [fillv]
theorem fillv_all (ys : List Value) (z : Value) : fillv ys z ys.length = ys := by simp [fillv]
theorem fillv_length (ys : List Value) (z : Value) {k : Nat} (h : k ≤ ys.length) : (fillv ys z k).length = ys.length := by simp [fillv]; omega
theorem fillv_get {ys : List Value} {z : Value} {k j : Nat} (h : j < k) (hk : k ≤ ys.length) : (fillv ys z k)[j]? = ys[j]? := by
  unfold fillv
  rw [List.getElem?_append_left (by simp; omega), List.getElem?_take, if_pos h]
theorem fillv_rest {ys : List Value} {z : Value} {k j : Nat} (h : k ≤ j) (hk : j < ys.length) : (fillv ys z k)[j]? = some z := by
  unfold fillv
  rw [List.getElem?_append_right (by simp; omega), List.getElem?_replicate, if_pos (by simp; omega)]
theorem fillv_set (ys : List Value) (z u : Value) {k : Nat} (hu : ys[k]? = some u) : (fillv ys z k).set k u = fillv ys z (k + 1) := by
  have hk : k < ys.length := (List.getElem?_eq_some_iff.1 hu).1
  apply List.ext_getElem?
  intro j
  rcases Nat.lt_trichotomy j k with h | h | h
  · rw [List.getElem?_set_ne (by omega), fillv_get h (by omega), fillv_get (by omega) (by omega)]
  · subst h
    rw [List.getElem?_set_self (by rw [fillv_length _ _ (by omega)]; exact hk), fillv_get (by omega) (by omega), hu]
  · rw [List.getElem?_set_ne (by omega)]
    by_cases hj : j < ys.length
    · rw [fillv_rest (by omega) hj, fillv_rest (by omega) hj]
    · rw [List.getElem?_eq_none (by rw [fillv_length _ _ (by omega)]; omega), List.getElem?_eq_none (by rw [fillv_length _ _ (by omega)]; omega)]

theorem one_of_int (k : IntKind) {α : Type} (f : α → Int) (l : List α) : ∀ u ∈ l.map (fun x => Value.int k (f x)), u.oneCell' = true := by
  intro u hu
  obtain ⟨x, _, rfl⟩ := List.mem_map.1 hu
  rfl
end Go.Proofs.Ytbofagfilohhfaa
