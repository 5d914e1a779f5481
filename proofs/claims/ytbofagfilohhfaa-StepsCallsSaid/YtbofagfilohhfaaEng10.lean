/- Rules of the program logic: slices of arrays that lie in memory; open regions all of whose reads come ahead of a call. Over any program. No condition. -/
import Derived.Test.YtbofagfilohhfaaEngR
namespace Go.Proofs.Ytbofagfilohhfaa
set_option maxRecDepth 20000
open Go.RowKit
theorem Sl.of_vec0 {w0 w : World} {L : List Asrt} {m c sz : Nat} {A : Option Addr} {e : TypeId} {xs : List Value} (hw : H w0 L w) (hm : vec A (0 + m) c e sz ([] ++ xs) ∈ L) : Sl w sz (.slice A (0 + m) c) m xs := by
  have := Sl.of_vec hw hm
  rwa [Nat.zero_add, List.nil_append] at *
theorem Sl.of_vecE {w0 w : World} {L : List Asrt} {m m' c sz : Nat} {A : Option Addr} {e : TypeId} {xs ys : List Value} (hw : H w0 L w) (hm : vec A m c e sz xs ∈ L) (h1 : m = m') (h2 : xs = ys) : Sl w sz (.slice A m c) m' ys := by
  subst h1; subst h2; exact Sl.of_vec hw hm
section
variable {P : Program} {n : Fr} {w0 : World} {C : World → Prop} {o : Oper} {E : Env} {L : List Asrt}
theorem g_sliceA {t e : TypeId} {x : Operand} {lo hi : Option Operand} {A : Option Addr} {m k l h sz : Nat} {kl kh : IntKind} {p q : Int} (ho : o.op = .slice t x lo hi none) (hx : Ev n E x (cellPtr A k)) (ht : P.underlying t = some (.array m e)) (hs : szT P e = some sz)
    (hlo : match lo with | none => l = 0 | some y => Ev n E y (.int kl p) ∧ p = (l : Int)) (hhi : match hi with | none => h = m | some y => Ev n E y (.int kh q) ∧ q = (h : Int)) (hlh : l ≤ h) (hhc : h ≤ m) (hA : ∀ w, C w → A.isSome = true) : Gives P n C o E (.slice (subA (A.map (·.add k)) m l sz) (h - l) (m - l)) := fun w hw => by
  obtain ⟨a, rfl⟩ := Option.isSome_iff_exists.1 (hA w hw)
  have hsub : ∀ (c : Nat), (some (if c = l then a.add k else (a.add k).add (l * sz)) : Option Addr) = subA ((some a).map (·.add k)) c l sz := fun c => by unfold subA; split <;> rfl
  unfold Ev at *; unfold execOp
  cases lo with
  | none =>
    simp only at hlo
    cases hi with
    | none =>
      simp only at hhi
      subst hlo; subst hhi
      simp [ho, hx, cellPtr_some, Instr.sliceAt, Instr.sureAddr, run_underlying ht, Instr.sliceBounds, run_size hs]
      simpa using hsub _
    | some y =>
      obtain ⟨hy, rfl⟩ := hhi
      subst hlo
      simp [ho, hx, hy, cellPtr_some, Instr.sliceAt, Instr.sureAddr, run_underlying ht, Instr.sliceBounds, Instr.sliceBound, asIntOf, run_size hs, hhc]
      simpa using hsub _
  | some y =>
    obtain ⟨hy, rfl⟩ := hlo
    have hlc : (l : Int) ≤ (h : Int) := by omega
    cases hi with
    | none =>
      simp only at hhi
      subst hhi
      simp [ho, hx, hy, cellPtr_some, Instr.sliceAt, Instr.sureAddr, run_underlying ht, Instr.sliceBounds, Instr.sliceBound, asIntOf, run_size hs, hlh]
      simpa using hsub _
    | some y' =>
      obtain ⟨hy', rfl⟩ := hhi
      simp [ho, hx, hy, hy', cellPtr_some, Instr.sliceAt, Instr.sureAddr, run_underlying ht, Instr.sliceBounds, Instr.sliceBound, asIntOf, run_size hs, hhc, hlh]
      simpa using hsub _
theorem vec_cap {w : World} {A : Option Addr} {m c sz : Nat} {e : TypeId} {xs : List Value} (hw : H w0 L w) (hm : vec A m c e sz xs ∈ L) : m ≤ c := by
  obtain ⟨_, A', c', h2, h3, _⟩ := Sl.of_vec hw hm
  injection h2 with _ _ e3
  subst e3; exact h3
/-- A slice within the capacity, where that is known of the world alone. -/
theorem g_sliceC {t e : TypeId} {x : Operand} {lo hi : Option Operand} {A : Option Addr} {m c l h sz : Nat} {kl kh : IntKind} {p q : Int} (ho : o.op = .slice t x lo hi none) (hx : Ev n E x (.slice A m c)) (ht : P.underlying t = some (.slice e)) (hs : szT P e = some sz)
    (hlo : match lo with | none => l = 0 | some y => Ev n E y (.int kl p) ∧ p = (l : Int)) (hhi : match hi with | none => h = m | some y => Ev n E y (.int kh q) ∧ q = (h : Int)) (hlh : l ≤ h) (hhc : ∀ w, C w → h ≤ c) : Gives P n C o E (.slice (subA A c l sz) (h - l) (c - l)) := fun w hw =>
  g_slice (C := C) ho hx ht hs hlo hhi hlh (hhc w hw) w hw
/-- What such a slice reads. -/
theorem Sl.of_pt {w : World} {b k m l h sz : Nat} {e : TypeId} {cs : List Value} (hw : H w0 L w) (hm : pt b e cs ∈ L) (hlh : l ≤ h) (hhc : h ≤ m) (hml : m ≤ maxLen) (hk : k + m * sz ≤ cs.length) :
    Sl w sz (.slice (subA ((some (⟨b, 0, none⟩ : Addr)).map (·.add k)) m l sz) (h - l) (m - l)) (h - l) ((cs.drop (k + l * sz)).take ((h - l) * sz)) := by
  have hb : w.heap[b]? = some (.cells cs.toArray e (0, 0)) := (hw.2.in_ _ hm).1
  have h1 : h * sz ≤ m * sz := Nat.mul_le_mul_right _ hhc
  have h2 : (h - l) * sz = h * sz - l * sz := Nat.sub_mul _ _ _
  have h3 : l * sz ≤ h * sz := Nat.mul_le_mul_right _ hlh
  refine ⟨by simp; omega, _, _, rfl, by omega, Nat.le_trans (Nat.sub_le _ _) hml, fun hn => ?_⟩
  have hne : m ≠ l := by omega
  refine ⟨⟨b, k + l * sz, none⟩, by simp [subA, hne, add_off], (Array.getElem?_eq_some_iff.1 hb).1, fun j u hu => ?_⟩
  rw [add_off, cell_of_block hb]
  rw [List.getElem?_take] at hu
  split at hu
  · rw [List.getElem?_drop] at hu; exact hu
  · cases hu
theorem Sl.of_ptE {w : World} {b k m l h sz m' : Nat} {e : TypeId} {cs ys : List Value} (hw : H w0 L w) (hm : pt b e cs ∈ L) (hlh : l ≤ h) (hhc : h ≤ m) (hml : m ≤ maxLen) (hk : k + m * sz ≤ cs.length) (h1 : h - l = m') (h2 : (cs.drop (k + l * sz)).take ((h - l) * sz) = ys) :
    Sl w sz (.slice (subA ((some (⟨b, 0, none⟩ : Addr)).map (·.add k)) m l sz) (h - l) (m - l)) m' ys := by
  subst h1; subst h2; exact Sl.of_pt hw hm hlh hhc hml hk
end
/-! ### A region whose order is open: all of the head is waited for by the operation behind it -/
section
variable {P : Program} {C : World → Prop} {l : List Oper} {m : Nat}
def tailOk2 (l : List Oper) (m : Nat) : Bool :=
  headOk l m && decide (m ≤ l.length) && ((List.range m).all fun i => (List.range (m + 1)).any fun j => decide (i < j) && Region.waitsFor .any l.toArray j i) &&
  ((List.range l.length).all fun t => decide (t ≤ m) || (List.range t).any fun t' => decide (m ≤ t') && Region.waitsFor .any l.toArray t t') && Region.lexB .any (l.take m).toArray
theorem not_ready2 (h : ((List.range m).all fun i => (List.range (m + 1)).any fun j => decide (i < j) && Region.waitsFor .any l.toArray j i) = true)
    (h2 : ((List.range l.length).all fun t => decide (t ≤ m) || (List.range t).any fun t' => decide (m ≤ t') && Region.waitsFor .any l.toArray t t') = true)
    {marks : Array Bool} (inv : HeadInv .any l.toArray m marks) {i : Nat} (hi : i < m) (hun : marks.getD i false = false) (t : Nat) (ht : m ≤ t) : t ∉ Region.ready .any l.toArray marks := by
  intro hr
  obtain ⟨_, ot, hot, hall⟩ := mem_ready.1 hr
  have htl : t < l.length := by have := (Array.getElem?_eq_some_iff.1 hot).1; simpa using this
  rcases Nat.lt_or_ge m t with hmt | hmt
  · have h3 := List.all_eq_true.1 h2 t (List.mem_range.2 htl)
    simp only [Bool.or_eq_true, decide_eq_true_eq] at h3
    rcases h3 with h3 | h3
    · omega
    · obtain ⟨t', ht', h4⟩ := List.any_eq_true.1 h3
      simp only [Bool.and_eq_true, decide_eq_true_eq] at h4
      obtain ⟨o', ho', e, he, hb, hon⟩ := Region.waitsFor_spec h4.2
      have : o' = ot := Option.some.inj (ho'.symm.trans hot)
      subst this
      have hl := hall e he hb
      rw [hon, getD_both (inv.tail t' h4.1 (by have := List.mem_range.1 ht'; simp; omega))] at hl
      cases hl
  · obtain rfl : t = m := by omega
    have key : ∀ (d i : Nat), t - i = d → i < t → marks.getD i false = false → False := by
      intro d
      induction d using Nat.strongRecOn with
      | _ d ih =>
        intro i hd hi hun
        obtain ⟨j, hj, hj2⟩ := List.any_eq_true.1 (List.all_eq_true.1 h i (List.mem_range.2 hi))
        simp only [Bool.and_eq_true, decide_eq_true_eq] at hj2
        obtain ⟨oj, hoj, e, he, hb, hon⟩ := Region.waitsFor_spec hj2.2
        have hjm := List.mem_range.1 hj
        rcases Nat.lt_or_ge j t with hjt | hjt
        · refine ih (t - j) (by omega) j rfl hjt ?_
          cases hmj : marks.getD j false with
          | false => rfl
          | true =>
            have := inv.closed j oj hoj hmj e he hb
            rw [hon, hun] at this
            cases this
        · obtain rfl : j = t := by omega
          have : oj = ot := Option.some.inj (hoj.symm.trans hot)
          subst this
          have hl := hall e he hb
          rw [hon, hun] at hl
          cases hl
    exact key _ i rfl hi hun
theorem wpAny_head2 {Q : Exit → Act → World → Prop} {g : Nat} (hg : l.length = m + g) (hok : headOk l m = true)
    (hnr : ∀ marks, HeadInv .any l.toArray m marks → ∀ i, i < m → marks.getD i false = false → ∀ t, m ≤ t → t ∉ Region.ready .any l.toArray marks) :
    ∀ (f : Nat) (s : Array Bool) (a : Act) (w : World), C w → s.size = m → left s = f → HeadInv .any l.toArray m (ext s g) →
      wpAnyQ P .any (l.take m).toArray C (fun a' => ∀ w', C w' → wpAny P .any l.toArray Q g (marksAt m g) a' w') f s a → wpAny P .any l.toArray Q (f + g) (ext s g) a w
  | 0, s, a, w, hC, hs, hl, _, h => by
    have hall : ext s g = marksAt m g := by unfold ext marksAt; rw [all_listed hl, hs]
    rw [Nat.zero_add, hall]
    exact h.2 w hC
  | f + 1, s, a, w, hC, hs, hl, inv, h => by
    rw [show f + 1 + g = (f + g) + 1 from by omega]
    obtain ⟨i0, hi0, hr0⟩ := some_ready (s := s) hs hok (by omega)
    have hr0' := (ready_head (g := g) hs (by omega) hok hi0).2 hr0
    refine ⟨fun h1 => (by rw [h1] at hr0'; cases hr0'), fun i hi => ?_⟩
    have him : i < m := by
      rcases Nat.lt_or_ge i m with h1 | h1
      · exact h1
      · exact absurd hi (hnr _ inv i0 hi0 (getD_both (mem_ready.1 hr0').1) i h1)
    have hri := (ready_head (g := g) hs (by omega) hok him).1 hi
    have hun := (mem_ready.1 hri).1
    refine wpOp_head hok him (wpOp_of_qOp hC (fun a' w' hw' hk => ?_) (h.2 i hri))
    rw [ext_set (by omega)]
    refine wpAny_head2 hg hok hnr f _ a' w' hw' (by simpa using hs) (by have := left_set (s := s) (i := i) (by omega) hun; omega) ?_ hk
    rw [← ext_set (by omega)]
    exact inv.set hi him
theorem wp_region_split2 {n : Fr} {id : Nat} {Q : Exit → Act → World → Prop} {a : Act} {w : World} (hf : fitsR n l = true) (hQ : ¬ LetsOut Q) (hm : P.follows .mixedOrders = true) (hB : tailOk2 l m = true) (hC : C { w with drawn := w.drawn + 1 })
    (h : wpQuiet P (l.take m).toArray C (fun a' => ∀ w', C w' → wpAny P .any l.toArray Q (l.length - m) (marksAt m (l.length - m)) a' w') (l.take m) a) : wpF n P (.region id l.toArray true) Q a w := by
  simp only [tailOk2, Bool.and_eq_true, decide_eq_true_eq] at hB
  obtain ⟨⟨⟨⟨hok, hlt⟩, hsk⟩, hch⟩, hlex⟩ := hB
  simp only [Region.lexB, Bool.and_eq_true] at hlex
  have htl : (l.take m).length = m := by simp; omega
  have hq := wpAnyQ_lex (C := C) (md := .any) hlex.1 (l.take m) 0 (Array.replicate m false) a (by simp) (by have := hlex.2; simpa [htl, List.length_take, Nat.min_eq_left hlt] using this) h
  rw [htl] at hq
  refine wpF_any (by simpa using hf) hQ hm ?_
  have hext : Array.replicate l.toArray.size false = ext (Array.replicate m false) (l.length - m) := by
    unfold ext
    apply Array.ext'
    simp [List.replicate_append_replicate]
    omega
  have := wpAny_head2 (C := C) (Q := Q) (g := l.length - m) (by omega) hok (fun marks inv i hi hun t ht => not_ready2 hsk hch inv hi hun t ht) m (Array.replicate m false) a _ hC (by simp) (by simp [left, List.countP_replicate]) ?_ hq
  · rw [hext]
    have e : l.toArray.size = m + (l.length - m) := by simp; omega
    rw [e]; exact this
  · rw [← hext]
    exact ⟨by simp, fun j oj _ hl => (by rw [getD_replicate_false] at hl; cases hl), fun t _ ht => getD_in (by simpa using ht) (getD_replicate_false _ _)⟩
end
section
variable {P : Program} {n : Fr} {w0 : World} {E : Env} {L : List Asrt} {Q : Exit → Post} {l : List Oper}
theorem WC.split2 (m : Nat) {id : Nat} (hf : fitsR n l = true) (hm : P.follows .mixedOrders = true) (hB : tailOk2 l m = true)
    (h : WQ P n w0 (l.take m).toArray (fun E' L' => WY P n w0 l (Q .normal) (l.length - m) (marksAt m (l.length - m)) E' L') (l.take m) E L) : WC P n w0 (.region id l.toArray true) Q E L := fun w hw => by
  refine wp_region_split2 (C := H w0 L) (m := m) hf liftQ_in hm hB hw.drew ?_
  exact h _ fun E' hT w' hw' => hT w' hw' _ (fun _ _ _ h => h) fun E'' L'' w'' hH hK => ⟨_, _, rfl, hH, hK⟩
end
end Go.Proofs.Ytbofagfilohhfaa
