/- The program logic: open regions in which some assertions hold throughout; copies. Over any program. No condition. -/
import Derived.Test.YtbofagfilohhfaaEng11
import Derived.OrdersHeld
import Derived.Laws.CopyRow
namespace Go.Proofs.Ytbofagfilohhfaa
set_option maxRecDepth 20000
open Go.RowKit
section
variable {P : Program} {n : Fr} {w0 : World} {E : Env} {L LS : List Asrt} {Q : Exit → Post} {K : Post} {l : List Oper} {f : Nat} {marks : Array Bool}
/-- What is left of a region comes up in whatever order; LS holds throughout. -/
def WH (P : Program) (n : Fr) (w0 : World) (l : List Oper) (K : Post) (LS : List Asrt) (f : Nat) (marks : Array Bool) (E : Env) (L : List Asrt) : Prop :=
  ∀ w, H w0 L w → ∀ Q : Exit → Act → World → Prop, (∀ c a w, ¬ Q (.panic c) a w) → (∀ E' L' w', H w0 L' w' → K E' L' → Q .normal (actOf n E') w') → wpAnyH P .any l.toArray Q (H w0 LS) f marks (actOf n E) w
theorem WC.held (LS : List Asrt) {id : Nat} (hf : fitsR n l = true) (hm : P.follows .mixedOrders = true) (h : WH P n w0 l (Q .normal) LS l.length (Array.replicate l.length false) E L) : WC P n w0 (.region id l.toArray true) Q E L := fun w hw => by
  refine wpF_any (by simpa using hf) liftQ_in hm ?_
  have := wpAny_of_held _ _ _ _ (h _ hw.drew (liftQ n w0 Q) (fun _ _ _ h => h) fun E' L' w' hH hK => ⟨_, _, rfl, hH, hK⟩)
  simpa using this
theorem WH.done (hr : Region.ready .any l.toArray marks = []) (h : K E L) : WH P n w0 l K LS f marks E L := fun w hw Q _ hQ => wpAnyH_done hr (hQ _ _ _ hw h) f
theorem WH.take (i : Nat) {o : Oper} {d : Nat} {v : Value} (ho : l[i]? = some o) (hs : Region.noSelect l.toArray = true) (hf : Region.free .any l.toArray marks i = true) (hr : (Region.ready .any l.toArray marks).contains i = true)
    (hg : o.guard = none) (hd : o.dst = some d) (hi : Imp L LS) (h : Gives P n (H w0 LS) o E v) (k : WH P n w0 l K LS f (marks.setIfInBounds i true) (E.set d v) L) : WH P n w0 l K LS (f + 1) marks E L := fun w hw Q hP hQ => by
  refine wpAnyH_take (i := i) (oi := o) (v := v) (by rw [List.getElem?_toArray]; exact ho) hs hf hr (fun c a w hq => absurd hq (hP _ _ _)) (.inl ⟨by simp [Region.wanted, hg], fun w' hw' => h w' hw'⟩) (hi.h hw) ?_
  rw [actOf_put, hd]
  exact k w hw Q hP hQ
theorem WH.all {rs : List Nat} (hr : Region.ready .any l.toArray marks = rs) (hne : rs ≠ []) (h : ∀ i ∈ rs, ∃ o, l[i]? = some o ∧ o.guard = none ∧ WL1 P n w0 l.toArray (fun E' L' => Imp L' LS ∧ WH P n w0 l K LS f (marks.setIfInBounds i true) E' L') o [] E L) : WH P n w0 l K LS (f + 1) marks E L := fun w hw Q hP hQ => by
  refine ⟨fun h0 => absurd (hr ▸ h0) hne, fun i hi => ?_⟩
  rw [hr] at hi
  obtain ⟨o, ho, hg, h1⟩ := h i hi
  unfold wpOp
  rw [List.getElem?_toArray, ho]
  simp only [Region.wanted, hg, if_true]
  left
  have h2 := h1 w hw (fun e a w => match e with | .normal => H w0 LS w ∧ wpAnyH P .any l.toArray Q (H w0 LS) f (marks.setIfInBounds i true) a w | e => Q e a w) (fun E' L' w' hH hK => ⟨hK.1.h hH, hK.2 w' hH Q hP hQ⟩) (fun a w => H w0 LS w ∧ wpAnyH P .any l.toArray Q (H w0 LS) f (marks.setIfInBounds i true) a w) (fun a w h => h)
  refine wp_panics ?_ h2
  intro e a w hne hq
  cases e <;> first | exact hq | exact absurd rfl hne
theorem WH.one (i : Nat) {o : Oper} (hr : Region.ready .any l.toArray marks = [i]) (ho : l[i]? = some o) (hg : o.guard = none) (h : WL1 P n w0 l.toArray (fun E' L' => Imp L' LS ∧ WH P n w0 l K LS f (marks.setIfInBounds i true) E' L') o [] E L) : WH P n w0 l K LS (f + 1) marks E L :=
  WH.all hr (by simp) fun j hj => by
    obtain rfl : j = i := by simpa using hj
    exact ⟨o, ho, hg, h⟩
theorem WH.two (i j : Nat) {o o' : Oper} (hr : Region.ready .any l.toArray marks = [i, j]) (ho : l[i]? = some o) (ho' : l[j]? = some o') (hg : o.guard = none) (hg' : o'.guard = none) (h : WL1 P n w0 l.toArray (fun E' L' => Imp L' LS ∧ WH P n w0 l K LS f (marks.setIfInBounds i true) E' L') o [] E L)
    (h' : WL1 P n w0 l.toArray (fun E' L' => Imp L' LS ∧ WH P n w0 l K LS f (marks.setIfInBounds j true) E' L') o' [] E L) : WH P n w0 l K LS (f + 1) marks E L :=
  WH.all hr (by simp) fun k hk => by
    rcases List.mem_cons.1 hk with rfl | hk
    · exact ⟨o, ho, hg, h⟩
    · obtain rfl : k = j := by simpa using hk
      exact ⟨o', ho', hg', h'⟩
/-- A read that nobody in the region turns may come first, where it is the value that is known of. -/
theorem WH.mono {K' : Post} (hk : ∀ E L, K E L → K' E L) (h : WH P n w0 l K LS f marks E L) : WH P n w0 l K' LS f marks E L := fun w hw Q hP hQ => h w hw Q hP fun E' L' w' hH hK => hQ E' L' w' hH (hk _ _ hK)
end
/-- One cell of a slice. -/
def cellA (A : Option Addr) (k : Nat) (v : Value) : Asrt where
  foot b := ∃ a, A = some a ∧ a.block = b
  ok w := ∃ a, A = some a ∧ w.cell? (a.add k) = some v
  loc w w' h hw := by
    obtain ⟨a, rfl, hc⟩ := hw
    refine ⟨a, rfl, ?_⟩
    unfold World.cell? at hc ⊢
    rw [h _ ⟨a, rfl, (addBlock a k).symm⟩]; exact hc
theorem Imp.nil (L : List Asrt) : Imp L [] := Imp.sub (List.nil_sublist _)
theorem Imp.skip {A : Asrt} {L M : List Asrt} (h : Imp L M) : Imp (A :: L) M := (Imp.sub (.cons _ (.refl _))).trans h
theorem Imp.cellc {A : Option Addr} {m c sz k : Nat} {e : TypeId} {xs : List Value} {v : Value} {L M : List Asrt} (hx : xs[k]? = some v) (h : Imp L M) : Imp (vec A m c e sz xs :: L) (cellA A k v :: M) :=
  Imp.trans (M := vec A m c e sz xs :: M) (Imp.cons h) ⟨fun D hD b hb => by
    rcases List.mem_cons.1 hD with rfl | hD
    · exact ⟨_, .head _, hb⟩
    · exact ⟨D, .tail _ hD, hb⟩, fun {B w} ⟨h1, h2, h3, h4⟩ => by
    refine ⟨?_, h2, h3, h4⟩
    obtain ⟨q1, A', c', q2, q3, q4, q5⟩ := Sl.of_own h1
    injection q2 with e1 e2 e3
    have hk : k < xs.length := (List.getElem?_eq_some_iff.1 hx).1
    have hm : 0 < m := by
      rcases Nat.eq_zero_or_pos m with h | h
      · rw [q1, h, Nat.zero_mul] at hk; omega
      · exact h
    obtain ⟨ad, e, _, hc⟩ := q5 hm
    exact ⟨ad, e1.trans e, hc k v hx⟩⟩
theorem rd_cellA {w0 : World} {L : List Asrt} {A : Option Addr} {k : Nat} {v : Value} (hm : cellA A k v ∈ L) : RdC (H w0 L) A k v := fun w hw => (hw.2.in_ _ hm).1
theorem cellA_some {w0 : World} {L : List Asrt} {A : Option Addr} {k : Nat} {v : Value} (hm : cellA A k v ∈ L) : ∀ w, H w0 L w → A.isSome = true := fun w hw => by
  obtain ⟨a, rfl, _⟩ := (hw.2.in_ _ hm).1; rfl
section
variable {P : Program} {n : Fr} {w0 : World} {E : Env} {L : List Asrt} {Q : Exit → Post}
/-- A fact that holds of every world of the class. -/
theorem WC.learn {φ : Prop} {c : Code} (h : ∀ w, H w0 L w → φ) (k : φ → WC P n w0 c Q E L) : WC P n w0 c Q E L := fun w hw => k (h w hw) w hw
theorem WL.learn {φ : Prop} {ops : Array Oper} {K : Post} {l : List Oper} (h : ∀ w, H w0 L w → φ) (k : φ → WL P n w0 ops K l E L) : WL P n w0 ops K l E L := fun w hw => k (h w hw) w hw
theorem WC.seqP {x y : Code} {γ : Type} (m : Nat) (VI : γ → List (Nat × Value)) (LI : γ → List Asrt) (pre : γ → Prop) (h1 : WC P n w0 x (seqQ (fun E' L' => ∃ g, Out m E' E ∧ Agree E' (VI g) ∧ Imp L' (LI g) ∧ pre g) Q) E L)
    (h2 : ∀ g U, pre g → WC P n w0 y Q (sets (hav m E U) (VI g)) (LI g)) : WC P n w0 (.seq x y) Q E L := by
  refine WC.seq fun K hK w hw => wpMono ?_ (h1 w hw)
  intro e a w' hq
  cases e with
  | normal =>
    obtain ⟨E', L', rfl, hH, g, ho, ha, hs, hp⟩ := hq
    refine ⟨E', LI g, rfl, hs.h hH, hK _ _ ?_⟩
    have := h2 g E' hp
    rwa [hav_out ho, sets_same ha] at this
  | _ => exact hq
end
section
variable {P : Program} {n : Fr} {w0 : World} {ops : Array Oper} {K : Post} {o : Oper} {rest : List Oper} {E : Env} {L L' : List Asrt}
/-- A copy of no more elements than there is room for. -/
theorem WL1.copyV {x y : Operand} {t t' e : TypeId} {d : Option Tmp} {A : Option Addr} {m c k : Nat} {src : Value} {xs news : List Value} (ht : P.underlying t = some (.slice e)) (hs1 : szT P e = some 1)
    (ho : o.op = .call { callee := .builtin .copy, args := #[x, y], argTypes := #[t, t'] }) (hd : o.dst = d) (hx : Ev n E x (.slice A m c)) (hy : Ev n E y src) (h0 : 0 < k) (hkm : k ≤ m)
    (hsl : ∀ w, H w0 L w → Sl w 1 src k news) (h1 : ∀ u ∈ news, u.oneCell' = true) (hs : Swap (vec A m c e 1 xs) (vec A m c e 1 (news ++ xs.drop k)) L L')
    (h : WL P n w0 ops K rest (E.put d (.int .i64 k)) L') : WL1 P n w0 ops K o rest E L := fun w hw Q hQ K' hK => by
  have hown : w.ownsRow 0 e 1 (.slice A m c) m xs := (hw.2.in_ _ hs.mem).1
  obtain ⟨e1, A2, c2, rfl, hc2, hm2, hcell⟩ := hsl w hw
  obtain ⟨ad, rfl, hadl, hcs⟩ := hcell h0
  rw [Nat.mul_one] at e1
  rcases hown.2 with ⟨h2, h3⟩ | ⟨g, cap, cur, h2, h3, h4, h5, h6, h7, h8⟩
  · omega
  · injection h2 with f1 f2 f3
    subst f1
    have hxl : xs.length = m := by have := hown.1; omega
    have hcur : m ≤ cur.size := by rw [← Nat.mul_one m, ← hown.1, ← h8]; simp; omega
    have hsz : (P.info? e).map (·.size) = some 1 := hs1
    have hrun := run_copy_row (P := P) w t t' o.type e g 0 m c ad k c2 cur e news ht hsz h4 (by show news.length = min k m; rw [Nat.min_eq_left hkm]; exact e1) hcs (by omega) h1
    unfold Ev at hx hy
    unfold Oper.wp execOp
    simp only [ho, resolve, invoke, builtin, Sem.run_bind, Sem.run_pure, Result.andThen_ok, List.map_toArray, List.map_cons, List.map_nil, hx, hy, hrun]
    show K' _ _
    rw [actOf_put, hd]
    have hgo : goInt news.length = .int .i64 k := by rw [e1]; rfl
    rw [hgo]
    refine hK _ _ (h _ ?_ Q hQ)
    refine hw.swapped hs (by simp) rfl rfl rfl (fun _ h => h) (fun i hi => setRow_other _ _ _ _ fun e => hi ⟨_, rfl, e.symm⟩) ?_
    refine ⟨?_, .inr ⟨g, cap, _, by rw [← f3], h3, setRow_heap w g cur _ e (0, 0) h4, h5, h6, ?_, ?_⟩⟩
    · rw [List.length_append, List.length_drop]; omega
    · simp only [List.size_toArray, List.length_append, List.length_take, List.length_drop, Array.length_toList]; omega
    · rw [← h8]
      simp only [Nat.zero_add, List.take_zero, List.nil_append, List.toList_toArray, e1, Nat.mul_one]
      rw [List.take_append, List.take_of_length_le (by omega), e1, List.drop_take]
end
end Go.Proofs.Ytbofagfilohhfaa
