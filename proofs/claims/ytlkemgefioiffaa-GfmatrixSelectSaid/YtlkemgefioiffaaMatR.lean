/- Rows of elements in memory, owned together: reading, storing, exchanging. No condition. -/
import Derived.Test.YtlkemgefioiffaaMatW
import Derived.Test.YtlkemgefioiffaaEng12
namespace Go.Proofs.Ytlkemgefioiffaa
open Go.RowKit
abbrev rowsA (rs : List Row) : Asrt := bun (rs.map Row.own)
def Row.put (r : Row) (j : Nat) (x : G) : Row := { r with l := r.l.set j x }
theorem Row.put_own (r : Row) (j : Nat) (x : G) : (r.put j x).own = vec r.A r.l.length r.c 5 1 ((bvs r.l).set j (bv x)) := by
  have h : (bvs r.l).set j (bv x) = bvs (r.l.set j x) := by unfold bvs; rw [List.map_set]
  rw [h, Row.own, Row.put, List.length_set]
theorem Row.put_v (r : Row) (j : Nat) (x : G) : (r.put j x).v = r.v := by rw [Row.v, Row.v, Row.put, List.length_set]
theorem nth_eq' {α : Type} [Inhabited α] {l : List α} {k : Nat} (h : k < l.length) : nth l k = l[k] := nth_eq h
theorem set_parts {α : Type} [Inhabited α] {l : List α} {k : Nat} (a : α) (h : k < l.length) : l.set k a = l.take k ++ a :: l.drop (k + 1) ∧ l = l.take k ++ nth l k :: l.drop (k + 1) := by
  refine ⟨by rw [List.set_eq_take_append_cons_drop, if_pos h], ?_⟩
  rw [nth_eq' h, List.getElem_cons_drop, List.take_append_drop]
theorem own_focus {rs : List Row} {k : Nat} (L : List Asrt) (hk : k < rs.length) : (rs.map Row.own ++ L).Perm ((nth rs k).own :: ((rs.take k ++ rs.drop (k + 1)).map Row.own ++ L)) := by
  have h := (set_parts (default : Row) hk).2
  refine List.Perm.trans (List.Perm.append_right L (List.Perm.map Row.own (?_ : rs.Perm (nth rs k :: (rs.take k ++ rs.drop (k + 1)))))) (.refl _)
  conv => lhs; rw [h]
  exact List.perm_middle
theorem own_unfocus {rs : List Row} {k : Nat} (r : Row) (L : List Asrt) (hk : k < rs.length) : (r.own :: ((rs.take k ++ rs.drop (k + 1)).map Row.own ++ L)).Perm ((rs.set k r).map Row.own ++ L) := by
  refine List.Perm.trans (.refl _) (List.Perm.append_right L (List.Perm.map Row.own (?_ : (r :: (rs.take k ++ rs.drop (k + 1))).Perm (rs.set k r))))
  rw [(set_parts r hk).1]
  exact List.perm_middle.symm
section
variable {P : Program} {n : Fr} {w0 : World} {ops : Array Oper} {K : Post} {o : Oper} {rest : List Oper} {E : Env} {L L' : List Asrt}
theorem rowA_own {w : World} {rs : List Row} {k : Nat} (hw : H w0 L w) (hm : rowsA rs ∈ L) (hk : k < rs.length) : w.ownsRow 0 5 1 (nth rs k).v (nth rs k).l.length (bvs (nth rs k).l) :=
  (Sep.in_ (hw.2.in_ _ hm).1 (nth rs k).own (List.mem_map_of_mem (nth_mem hk))).1
theorem Sl.of_rowA {w : World} {rs : List Row} {k : Nat} (hw : H w0 L w) (hm : rowsA rs ∈ L) (hk : k < rs.length) : Sl w 1 (nth rs k).v (nth rs k).l.length (bvs (nth rs k).l) := Sl.of_own (rowA_own hw hm hk)
theorem rowA_some {rs : List Row} {k : Nat} (hm : rowsA rs ∈ L) (hk : k < rs.length) (hj : 0 < (nth rs k).l.length) : ∀ w, H w0 L w → (nth rs k).A.isSome = true := fun _ hw => sl_some (Sl.of_rowA hw hm hk) (by omega)
theorem rowA_cap {w : World} {rs : List Row} {k : Nat} (hw : H w0 L w) (hm : rowsA rs ∈ L) (hk : k < rs.length) : (nth rs k).l.length ≤ (nth rs k).c := by
  obtain ⟨_, A', c', h2, h3, _⟩ := Sl.of_rowA hw hm hk
  unfold Row.v at h2
  injection h2 with _ _ e3
  omega
theorem rd_rowA {rs : List Row} {k j : Nat} (hm : rowsA rs ∈ L) (hk : k < rs.length) (hj : j < (nth rs k).l.length) : RdC (H w0 L) (nth rs k).A (j * 1) (bv (nth (nth rs k).l j)) := fun w hw => by
  have h := Sl.of_rowA hw hm hk
  obtain ⟨h1, A', c', h2, h3, h4, h5⟩ := h
  unfold Row.v at h2
  injection h2 with e1 e2 e3
  obtain ⟨ad, e, hl, hc⟩ := h5 (by omega)
  exact ⟨ad, e1.trans e, hc _ _ (by rw [Nat.mul_one, bvs, List.getElem?_map, nth_get hj]; rfl)⟩
theorem MatAt.of_rowsA {w : World} {A : Option Addr} {c : Nat} {rs : List Row} (hw : H w0 L w) (h0 : vec A rs.length c 28 1 (rs.map Row.v) ∈ L) (h : rowsA rs ∈ L) : MatAt w (.slice A rs.length c) rs :=
  ⟨Sl.of_vec hw h0, fun r hr => by
    obtain ⟨k, hk, rfl⟩ := List.getElem_of_mem hr
    have := Sl.of_rowA hw h hk
    rwa [nth_eq' hk] at this⟩
theorem WL1.storeRow {t : TypeId} {x y : Operand} {rs : List Row} {k j i : Nat} {g : G} {v : Value} {A' : Option Addr} (ho : o.op = .store t x y) (hd : o.dst = none) (hx : Ev n E x (cellPtr A' i)) (hA : A' = (nth rs k).A) (hi : i = j * 1) (hy : Ev n E y v) (hg : v = bv g) (ht : szT P t = some 1) (hk : k < rs.length) (hj : j < (nth rs k).l.length)
    (hs : Swap (rowsA rs) (rowsA (rs.set k ((nth rs k).put j g))) L L') (h : WL P n w0 ops K rest E L') : WL1 P n w0 ops K o rest E L := by
  subst hg; subst hA
  obtain ⟨L1, p1, p2⟩ := hs.perms
  refine WL1.imp (((Imp.perm p1).trans (Imp.unbun _ _)).trans (Imp.perm (own_focus L1 hk))) ?_
  refine WL1.storeV1 (m := (nth rs k).l.length) (c := (nth rs k).c) (e := 5) (sz := 1) (xs := bvs (nth rs k).l) ho hd hx hy ht rfl (by rw [hi]; simpa using hj) .head ?_
  refine WL.imp ?_ h
  have e1 : vec (nth rs k).A (nth rs k).l.length (nth rs k).c 5 1 ((bvs (nth rs k).l).set i (bv g)) = ((nth rs k).put j g).own := by rw [Row.put_own, hi, Nat.mul_one]
  rw [e1]
  exact ((Imp.perm (own_unfocus _ L1 hk)).trans (Imp.bun _ _)).trans (Imp.perm p2.symm)
end
/-- Another list laid over the first elements. -/
def Row.copy (r : Row) (l : List G) : Row := { r with l := l ++ r.l.drop l.length }
theorem Row.copy_own (r : Row) {l : List G} (h : l.length ≤ r.l.length) : (r.copy l).own = vec r.A r.l.length r.c 5 1 (bvs l ++ (bvs r.l).drop l.length) := by
  have e1 : bvs l ++ (bvs r.l).drop l.length = bvs (l ++ r.l.drop l.length) := by unfold bvs; rw [List.map_append, List.map_drop]
  have e2 : (l ++ r.l.drop l.length).length = r.l.length := by rw [List.length_append, List.length_drop]; omega
  rw [e1, Row.own, Row.copy, e2]
theorem Row.copy_v (r : Row) {l : List G} (h : l.length ≤ r.l.length) : (r.copy l).v = r.v := by
  have e2 : (l ++ r.l.drop l.length).length = r.l.length := by rw [List.length_append, List.length_drop]; omega
  rw [Row.v, Row.v, Row.copy, e2]
theorem WL1.copyRow {P : Program} {n : Fr} {w0 : World} {ops : Array Oper} {K : Post} {o : Oper} {rest : List Oper} {E : Env} {L L' : List Asrt} {x y : Operand} {t t' : TypeId} {d : Option Tmp} {rs : List Row} {k m c : Nat} {l : List G} {src : Value} (ht : P.underlying t = some (.slice 5)) (hs1 : szT P 5 = some 1)
    (ho : o.op = .call { callee := .builtin .copy, args := #[x, y], argTypes := #[t, t'] }) (hd : o.dst = d) (hx : Ev n E x (.slice (nth rs k).A m c)) (hm : m = (nth rs k).l.length) (hc : c = (nth rs k).c) (hy : Ev n E y src) (hk : k < rs.length) (h0 : 0 < l.length) (hkm : l.length ≤ (nth rs k).l.length)
    (hsl : ∀ w, H w0 L w → Sl w 1 src l.length (bvs l)) (hs : Swap (rowsA rs) (rowsA (rs.set k ((nth rs k).copy l))) L L')
    (h : WL P n w0 ops K rest (E.put d (.int .i64 l.length)) L') : WL1 P n w0 ops K o rest E L := by
  subst hm; subst hc
  obtain ⟨L1, p1, p2⟩ := hs.perms
  have i1 := ((Imp.perm p1).trans (Imp.unbun _ _)).trans (Imp.perm (own_focus L1 hk))
  have i2 := (Imp.unbun _ _).trans (Imp.perm (own_focus L1 hk))
  refine WL1.imp i1 ?_
  refine WL1.copyV (m := (nth rs k).l.length) (c := (nth rs k).c) (xs := bvs (nth rs k).l) ht hs1 ho hd hx hy h0 hkm (fun w hw => hsl w ?_) (one_of_int .u8 (fun x : G => (x.val : Int)) l) .head (WL.imp ?_ h)
  · exact ((((Imp.perm (own_focus L1 hk).symm).trans (Imp.bun _ _))).trans (Imp.perm p1.symm)).h hw
  · rw [← Row.copy_own _ hkm]
    exact ((Imp.perm (own_unfocus _ L1 hk)).trans (Imp.bun _ _)).trans (Imp.perm p2.symm)
/-- A row takes another one's place. -/
theorem Imp.row_put {rs : List Row} {k : Nat} (r : Row) (L : List Asrt) (hk : k < rs.length) : Imp (r.own :: rowsA rs :: L) (rowsA (rs.set k r) :: L) :=
  ((Imp.cons ((Imp.unbun _ _).trans ((Imp.perm (own_focus L hk)).trans (Imp.sub (.cons _ (.refl _)))))).trans (Imp.perm (own_unfocus r L hk))).trans (Imp.bun _ _)
/-- A row joins. -/
theorem Imp.row_add (rs : List Row) (r : Row) (L : List Asrt) : Imp (r.own :: rowsA rs :: L) (rowsA (rs ++ [r]) :: L) :=
  ((Imp.cons (Imp.unbun _ _)).trans (Imp.perm (show (r.own :: (rs.map Row.own ++ L)).Perm ((rs ++ [r]).map Row.own ++ L) by rw [List.map_append, List.append_assoc]; exact List.perm_middle.symm))).trans (Imp.bun _ _)
theorem Imp.rows_perm {rs rs' : List Row} (h : rs.Perm rs') (L : List Asrt) : Imp (rowsA rs :: L) (rowsA rs' :: L) :=
  ((Imp.unbun _ _).trans (Imp.perm (List.Perm.append_right L (h.map Row.own)))).trans (Imp.bun _ _)
theorem Imp.rows_nil (L : List Asrt) : Imp L (rowsA [] :: L) := Imp.bun [] L
theorem Imp.rows_of (rs : List Row) (L : List Asrt) : Imp (rs.map Row.own ++ L) (rowsA rs :: L) := Imp.bun _ _
theorem rowsv_set {rs : List Row} {k : Nat} (r : Row) : (rs.set k r).map Row.v = (rs.map Row.v).set k r.v := List.map_set
/-- What lies behind the chosen ones. -/
theorem Imp.put2 {rs : List Row} {k : Nat} {r : Row} {L L1 L2 : List Asrt} (h1 : Take r.own L L1) (h2 : Swap (rowsA rs) (rowsA (rs.set k r)) L1 L2) (hk : k < rs.length) : Imp L L2 := by
  obtain ⟨L3, p1, p2⟩ := h2.perms
  exact (Imp.perm (h1.perm.trans (p1.cons _))).trans ((Imp.row_put r L3 hk).trans (Imp.perm p2.symm))
theorem Imp.add2 {rs : List Row} {r : Row} {L L1 L2 : List Asrt} (h1 : Take r.own L L1) (h2 : Swap (rowsA rs) (rowsA (rs ++ [r])) L1 L2) : Imp L L2 := by
  obtain ⟨L3, p1, p2⟩ := h2.perms
  exact (Imp.perm (h1.perm.trans (p1.cons _))).trans ((Imp.row_add rs r L3).trans (Imp.perm p2.symm))
end Go.Proofs.Ytlkemgefioiffaa
