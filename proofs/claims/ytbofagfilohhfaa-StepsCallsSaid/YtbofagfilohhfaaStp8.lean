/- The scheduler with its machines: one state, one step. No condition. -/
import Derived.Test.YtbofagfilohhfaaStp7
namespace Go.Proofs.Ytbofagfilohhfaa
set_option maxRecDepth 20000
open Go.RowKit
attribute [local irreducible] Calls
/-- A machine: its block, the steps that are left, the steps that are done. -/
structure Jb where
  b : Nat
  l : Int
  d : Int
instance : Inhabited Jb := ⟨⟨0, 0, 0⟩⟩
abbrev jb (j : Jb) : Asrt := pt j.b JT [iv j.l, iv j.d]
def jbs (js : List Jb) : Asrt := bun (js.map jb)
theorem jbs_out {js : List Jb} {L : List Asrt} {k : Nat} (hk : k < js.length) : Imp (jbs js :: L) (jb (nth js k) :: jbs (js.eraseIdx k) :: L) := by
  have := Imp.out (M := js.map jb) (L := L) (k := k) (by rw [List.length_map]; exact hk)
  rw [List.getElem_map, show (js.map jb).eraseIdx k = (js.eraseIdx k).map jb from by simp [List.eraseIdx_eq_take_drop_succ, List.map_take, List.map_drop], ← nth_eq hk] at this
  exact this
theorem jbs_back {js : List Jb} {L : List Asrt} {k : Nat} {e : Jb} (hk : k < js.length) : Imp (jb e :: jbs (js.eraseIdx k) :: L) (jbs (js.set k e) :: L) := by
  have := Imp.back (M := js.map jb) (L := L) (A := jb e) (k := k) (by rw [List.length_map]; exact hk)
  rw [show (js.map jb).eraseIdx k = (js.eraseIdx k).map jb from by simp [List.eraseIdx_eq_take_drop_succ, List.map_take, List.map_drop], ← List.map_set] at this
  exact this
theorem jbs_new {js : List Jb} {L : List Asrt} {e : Jb} : Imp (jb e :: jbs js :: L) (jbs (js ++ [e]) :: L) := by
  have := Imp.new (M := js.map jb) (L := L) (A := jb e)
  rw [show js.map jb ++ [jb e] = (js ++ [e]).map jb from by simp] at this
  exact this
theorem jbs_none {L : List Asrt} : Imp L (jbs [] :: L) := Imp.none
theorem job_mem {js : List Jb} {k : Nat} (h : k < js.length) : pt (nth js k).b JT [iv (nth js k).l, iv (nth js k).d] ∈ js.map jb := List.mem_map.2 ⟨nth js k, by rw [nth_eq h]; exact List.getElem_mem h, rfl⟩
/-- The machine of an entry. -/
def En.q (e : En) : Nat := (e.id - 1).toNat
def Jb.stp (j : Jb) : Jb := ⟨j.b, wr (j.l - 1), wr (j.d + 1)⟩
/-- A step of the entry number k. -/
def stpE (es : List En) (js : List Jb) (k : Nat) : List En := if (nth js (nth es k).q).stp.l = 0 then es.eraseIdx k else es
def stpJ (es : List En) (js : List Jb) (k : Nat) : List Jb := js.set (nth es k).q (nth js (nth es k).q).stp
def fairE (es : List En) (js : List Jb) : List En := stpE (fairW es) js (fairB es)
def fairJ (es : List En) (js : List Jb) : List Jb := stpJ (fairW es) js (fairB es)
/-- The entries are those of some of the machines, in their order. -/
structure Ok (es : List En) (js : List Jb) : Prop where
  ent : ∀ e ∈ es, 1 ≤ e.id ∧ e.id ≤ js.length ∧ e.j = (nth js e.q).b ∧ 1 ≤ e.wt ∧ e.wt ≤ 16
  ord : es.Pairwise fun a b => a.id < b.id
theorem nth_mem {α : Type} [Inhabited α] {l : List α} {k : Nat} (h : k < l.length) : nth l k ∈ l := by rw [nth_eq h]; exact List.getElem_mem h
theorem Ok.at {es : List En} {js : List Jb} (h : Ok es js) {k : Nat} (hk : k < es.length) : 1 ≤ (nth es k).id ∧ (nth es k).id ≤ js.length ∧ (nth es k).j = (nth js (nth es k).q).b ∧ 1 ≤ (nth es k).wt ∧ (nth es k).wt ≤ 16 := h.ent _ (nth_mem hk)
theorem Ok.q {es : List En} {js : List Jb} (h : Ok es js) {k : Nat} (hk : k < es.length) : (nth es k).q < js.length := by
  have := h.at hk
  unfold En.q; omega
theorem idN_self {es : List En} (h : es.Pairwise fun a b => a.id < b.id) {k : Nat} (hk : k < es.length) : idN es (nth es k).id = k := by
  refine idN_at hk (fun i hi => ?_) rfl
  have := List.pairwise_iff_getElem.1 h i k (by omega) hk hi
  rw [nth_eq hk, nth_eq (by omega)]
  omega
theorem idN_ids {es es' : List En} {x : Int} (h : idsL es = idsL es') : idN es x = idN es' x := by
  have e : ∀ l : List En, idN l x = (idsL l).findIdx (fun i => i == x) := fun l => by
    induction l with
    | nil => rfl
    | cons a l ih => unfold idN idsL at *; simp only [List.map_cons, List.findIdx_cons, ih]
  rw [e, e, h]
theorem ids_fairW (es : List En) : idsL (fairW es) = idsL es := by
  unfold fairW idsL
  rw [List.map_set, List.map_map]
  have e : (es.map ((·.id) ∘ En.add)) = es.map (·.id) := List.map_congr_left fun _ _ => rfl
  rw [e]
  by_cases h : fairB es < es.length
  · have e2 : ((nth (es.map En.add) (fairB es)).pay (sumW es es.length)).id = (es.map (·.id))[fairB es]'(by simpa using h) := by rw [List.getElem_map, nth_add h, nth_eq h]; rfl
    rw [e2, List.set_getElem_self]
  · rw [List.set_eq_of_length_le (by simp; omega)]
theorem fairW_at {es : List En} {i : Nat} (h0 : 1 ≤ es.length) (h : i < es.length) : nth (fairW es) i = if i = fairB es then ((nth es i).add).pay (sumW es es.length) else (nth es i).add := by
  rw [nth_eq (by rw [fairW_len]; exact h)]
  unfold fairW
  rw [List.getElem_set]
  by_cases e : i = fairB es
  · rw [if_pos e.symm, if_pos e, ← e, nth_add h]
  · rw [if_neg (fun x => e x.symm), if_neg e, List.getElem_map, nth_eq h]
section
variable {w0 w : World} {L : List Asrt} {S c k : Nat} {A : Option Addr} {last x : Int} {es : List En} {js : List Jb}
theorem post_f {e' : List En} {q : Nat} {a b : Int} {w' : World} (hq : q < js.length) (h : H w0 (schd S A c last e' ++ pt (nth js q).b JT [iv a, iv b] :: jbs (js.eraseIdx q) :: L) w') : H w0 (schd S A c last e' ++ jbs (js.set q ⟨(nth js q).b, a, b⟩) :: L) w' :=
  (Imp.cons (Imp.cons (Imp.cons (jbs_back (e := ⟨(nth js q).b, a, b⟩) hq)))).h h
theorem fair_f (hm : es.length ≤ 64) (h0 : 1 ≤ es.length) (hB : Bnd es) (ho : Ok es js) (hw : H w0 (schd S A c last es ++ jbs js :: L) w) :
    Calls Try.prog 14 #[bp S] w fun e w' => ∃ u L', e = .returned u ∧ H w0 L' w' ∧ u = .tuple #[iv (nth es (fairB es)).id, .bool (decide ((nth js (nth es (fairB es)).q).stp.l = 0)), iv 0] ∧ L' = schd S A c last (fairE es js) ++ jbs (fairJ es js) :: L := by
  have hk := fairB_lt h0
  have hq := ho.q hk
  have hat := ho.at hk
  have e1 : (nth (fairW es) (fairB es)).q = (nth es (fairB es)).q := by rw [fairW_at h0 hk, if_pos rfl]; rfl
  refine (fair_e (w0 := w0) (L := jbs (js.eraseIdx (nth es (fairB es)).q) :: L) (l := (nth js (nth es (fairB es)).q).l) (d := (nth js (nth es (fairB es)).q).d) (k := fairB es) (j := (nth js (nth es (fairB es)).q).b) hm h0 hB rfl (by rw [idN_ids (ids_fairW es)]; exact idN_self ho.ord hk) hat.2.2.1 ((Imp.cons (Imp.cons (Imp.cons (jbs_out hq)))).h hw)).mono ?_
  rintro e w' ⟨u, L', rfl, hH, rfl, rfl⟩
  refine ⟨_, _, rfl, ?_, rfl, rfl⟩
  have := post_f hq hH
  unfold fairE fairJ stpE stpJ
  rw [e1]
  exact this
theorem pick_f (hm : es.length ≤ 64) (hk : k < es.length) (hn : 0 ≤ x) (hq : x.tmod es.length = (k : Int)) (ho : Ok es js) (hw : H w0 (schd S A c last es ++ jbs js :: L) w) :
    Calls Try.prog 13 #[bp S, iv x] w fun e w' => ∃ u L', e = .returned u ∧ H w0 L' w' ∧ u = .tuple #[iv (nth es k).id, .bool (decide ((nth js (nth es k).q).stp.l = 0)), iv 0] ∧ L' = schd S A c last (stpE es js k) ++ jbs (stpJ es js k) :: L := by
  have hqq := ho.q hk
  have hat := ho.at hk
  refine (pick_e (w0 := w0) (L := jbs (js.eraseIdx (nth es k).q) :: L) (l := (nth js (nth es k).q).l) (d := (nth js (nth es k).q).d) (k := k) (j := (nth js (nth es k).q).b) hm hk hn hq (idN_self ho.ord hk) hat.2.2.1 ((Imp.cons (Imp.cons (Imp.cons (jbs_out hqq)))).h hw)).mono ?_
  rintro e w' ⟨u, L', rfl, hH, rfl, rfl⟩
  exact ⟨_, _, rfl, post_f hqq hH, rfl, rfl⟩
end
/-! ### The state stays in order -/
theorem Ok.set {es : List En} {js : List Jb} (h : Ok es js) {q : Nat} {j : Jb} (hj : j.b = (nth js q).b) : Ok es (js.set q j) := by
  refine ⟨fun e he => ?_, h.ord⟩
  have := h.ent e he
  rw [List.length_set]
  refine ⟨this.1, this.2.1, ?_, this.2.2.2⟩
  rw [this.2.2.1]
  have hq : e.q < js.length := by unfold En.q; omega
  rw [nth_eq hq, nth_eq (by rw [List.length_set]; exact hq), List.getElem_set]
  split
  · rename_i he'
    rw [hj, ← nth_eq hq, he']
  · rfl
theorem Ok.sub {es es' : List En} {js : List Jb} (h : Ok es js) (hs : es'.Sublist es) : Ok es' js := ⟨fun e he => h.ent e (hs.subset he), h.ord.sublist hs⟩
theorem Ok.stp {es : List En} {js : List Jb} (h : Ok es js) (k : Nat) : Ok (stpE es js k) (stpJ es js k) := by
  unfold stpE stpJ
  refine Ok.set (j := (nth js (nth es k).q).stp) ?_ rfl
  split
  · exact h.sub (List.eraseIdx_sublist _ _)
  · exact h
theorem Ok.fairw {es : List En} {js : List Jb} (h : Ok es js) (h0 : 1 ≤ es.length) : Ok (Go.Proofs.Ytbofagfilohhfaa.fairW es) js := by
  refine ⟨fun e he => ?_, ?_⟩
  · obtain ⟨i, hi, rfl⟩ := List.getElem_of_mem he
    rw [fairW_len] at hi
    rw [← nth_eq, fairW_at h0 hi]
    have := h.at hi
    split <;> exact this
  · have : (idsL (fairW es)).Pairwise (· < ·) := by
      rw [ids_fairW]; exact List.pairwise_map.2 h.ord
    exact List.pairwise_map.1 this
theorem Ok.fair {es : List En} {js : List Jb} (h : Ok es js) (h0 : 1 ≤ es.length) : Ok (fairE es js) (fairJ es js) := (h.fairw h0).stp _
theorem stpJ_len (es : List En) (js : List Jb) (k : Nat) : (stpJ es js k).length = js.length := by simp [stpJ]
end Go.Proofs.Ytbofagfilohhfaa
