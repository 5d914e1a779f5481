/- The program logic: open regions in which some assertions hold throughout: operations under a guard. Over any program. No condition. -/
import Derived.Test.YtbofagfilohhfaaEng17
namespace Go.Proofs.Ytbofagfilohhfaa
set_option maxRecDepth 20000
open Go.RowKit
/-- The guard of an operation is met. -/
def WantedN (n : Fr) (l : List Oper) (o : Oper) (E : Env) : Prop := ∃ j b d, o.guard = some (j, b) ∧ (l[j]?).bind (·.dst) = some d ∧ Nat.blt d n.n = true ∧ E d = .bool b
section
variable {P : Program} {n : Fr} {w0 : World} {E : Env} {L LS : List Asrt} {Q : Exit → Post} {K : Post} {l : List Oper} {f : Nat} {marks : Array Bool}
theorem WantedN.run {o : Oper} (h : WantedN n l o E) : Region.wanted o (yielded l.toArray (actOf n E).tmps) = true := by
  obtain ⟨j, b, d, hg, hd, hn, hE⟩ := h
  unfold Region.wanted
  rw [hg]
  simp [yielded_at hd hn hE]
theorem WH.takeG (i : Nat) {o : Oper} {d : Nat} {v : Value} (ho : l[i]? = some o) (hs : Region.noSelect l.toArray = true) (hf : Region.free .any l.toArray marks i = true) (hr : (Region.ready .any l.toArray marks).contains i = true)
    (hg : WantedN n l o E) (hd : o.dst = some d) (hi : Imp L LS) (h : Gives P n (H w0 LS) o E v) (k : WH P n w0 l K LS f (marks.setIfInBounds i true) (E.set d v) L) : WH P n w0 l K LS (f + 1) marks E L := fun w hw Q hP hQ => by
  refine wpAnyH_take (i := i) (oi := o) (v := v) (by rw [List.getElem?_toArray]; exact ho) hs hf hr (fun c a w hq => absurd hq (hP _ _ _)) (.inl ⟨hg.run, fun w' hw' => h w' hw'⟩) (hi.h hw) ?_
  rw [actOf_put, hd]
  exact k w hw Q hP hQ
theorem WH.oneG (i : Nat) {o : Oper} (hr : Region.ready .any l.toArray marks = [i]) (ho : l[i]? = some o) (hg : WantedN n l o E) (h1 : WL1 P n w0 l.toArray (fun E' L' => Imp L' LS ∧ WH P n w0 l K LS f (marks.setIfInBounds i true) E' L') o [] E L) : WH P n w0 l K LS (f + 1) marks E L := fun w hw Q hP hQ => by
  refine ⟨fun h0 => absurd (hr ▸ h0) (by simp), fun k hk => ?_⟩
  rw [hr] at hk
  obtain rfl : k = i := by simpa using hk
  unfold wpOp
  rw [List.getElem?_toArray, ho]
  simp only [hg.run, if_true]
  left
  have h2 := h1 w hw (fun e a w => match e with | .normal => H w0 LS w ∧ wpAnyH P .any l.toArray Q (H w0 LS) f (marks.setIfInBounds k true) a w | e => Q e a w) (fun E' L' w' hH hK => ⟨hK.1.h hH, hK.2 w' hH Q hP hQ⟩) (fun a w => H w0 LS w ∧ wpAnyH P .any l.toArray Q (H w0 LS) f (marks.setIfInBounds k true) a w) (fun a w h => h)
  refine wp_panics ?_ h2
  intro e a w hne hq
  cases e <;> first | exact hq | exact absurd rfl hne
end
end Go.Proofs.Ytbofagfilohhfaa
