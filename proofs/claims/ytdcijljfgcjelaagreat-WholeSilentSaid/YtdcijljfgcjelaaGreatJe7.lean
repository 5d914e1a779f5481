/- Texts joined: Sil3. The parts say what each of them proves. No condition. -/
import Derived.Test.YtdcijljfgcjelaaGreatJe6
namespace Go.Proofs.YtdcijljfgcjelaaGreat
set_option maxRecDepth 20000
open Go.RowKit
attribute [local irreducible] Calls
def tab {α : Type} (m : Nat) (f : Nat → α) : List α := (List.range m).map f
theorem tab_len {α : Type} (m : Nat) (f : Nat → α) : (tab m f).length = m := by simp [tab]
theorem tab_nth {α : Type} [Inhabited α] {m q : Nat} {f : Nat → α} (h : q < m) : nth (tab m f) q = f q := nth_range _ h
theorem tab_same {α : Type} {m : Nat} {f f' : Nat → α} (h : ∀ q, q < m → f q = f' q) : tab m f = tab m f' := List.map_congr_left fun q hq => h q (List.mem_range.1 hq)
theorem tab_set {α : Type} [Inhabited α] {m i : Nat} {f f' : Nat → α} {x : α} (hi : i < m) (he : f' i = x) (ho : ∀ q, q ≠ i → f q = f' q) : (tab m f).set i x = tab m f' :=
  list_ext_nth (by rw [List.length_set, tab_len, tab_len]) fun q hq => by
    have hq3 : q < m := by rw [List.length_set, tab_len] at hq; exact hq
    rw [nth_set_eq (by rw [tab_len]; exact hi), tab_nth hq3, tab_nth hq3]
    by_cases e : q = i
    · rw [if_pos e, e, he]
    · rw [if_neg e, ho q e]
theorem tab_nths {α : Type} [Inhabited α] {m : Nat} {l : List α} (h : l.length = m) : tab m (nth l) = l :=
  list_ext_nth (by rw [tab_len, h]) fun q hq => by rw [tab_nth (by rw [tab_len] at hq; exact hq)]
theorem tab_rep {α : Type} (m : Nat) (x : α) : List.replicate m x = tab m fun _ => x := by
  refine (List.eq_replicate_iff.2 ⟨tab_len _ _, fun b hb => ?_⟩).symm
  obtain ⟨_, _, rfl⟩ := List.mem_map.1 hb
  rfl
section
variable (ps gs : List Blk) (s : Nat)
def kdN (q : Nat) : Nat := ((nth gs q).at 0).val % 3
def ofN (q : Nat) : Nat := ((nth gs q).at 1).val % 3
def htF (i q : Nat) : Bool := mkB s q && !(decide (q < i ∧ kdN gs q = 2 ∧ nth gs q = nth ps q))
def prF (i q : Nat) : Bool := !(decide (q < i) && mkB s q && decide (kdN gs q = 0))
def vsF (i q : Nat) : Nat := if q < i ∧ mkB s q = true ∧ kdN gs q = 1 then q + 3 - (1 + ofN gs q) else q + 3
def fsF (i q : Nat) : Blk := if q < i ∧ mkB s q = true ∧ kdN gs q = 2 then nth gs q else nth ps q
end
variable {ps gs : List Blk} {s m i n : Nat}
theorem kdN_lt (gs : List Blk) (q : Nat) : kdN gs q < 3 := Nat.mod_lt _ (by decide)
theorem ofN_lt (gs : List Blk) (q : Nat) : ofN gs q < 3 := Nat.mod_lt _ (by decide)
theorem htF_zero (m : Nat) : tab m (htF ps gs s 0) = mkL m s := tab_same fun q _ => by unfold htF; simp
theorem prF_zero (m : Nat) : tab m (prF gs s 0) = tab m fun _ => true := tab_same fun q _ => by unfold prF; simp
theorem vsF_zero (m : Nat) : tab m (vsF gs s 0) = tab m fun q => q + 3 := tab_same fun q _ => by unfold vsF; rw [if_neg (by omega)]
theorem fsF_zero (h : ps.length = m) : tab m (fsF ps gs s 0) = ps := (tab_same fun q _ => by unfold fsF; rw [if_neg (by omega)]).trans (tab_nths h)
theorem lt_step {q i : Nat} (h : q ≠ i) : q < i ↔ q < i + 1 := by omega
theorem htF_else (q : Nat) (h : q ≠ i) : htF ps gs s i q = htF ps gs s (i + 1) q := by unfold htF; simp only [lt_step h]
theorem prF_else (q : Nat) (h : q ≠ i) : prF gs s i q = prF gs s (i + 1) q := by unfold prF; simp only [lt_step h]
theorem vsF_else (q : Nat) (h : q ≠ i) : vsF gs s i q = vsF gs s (i + 1) q := by unfold vsF; simp only [lt_step h]
theorem fsF_else (q : Nat) (h : q ≠ i) : fsF ps gs s i q = fsF ps gs s (i + 1) q := by unfold fsF; simp only [lt_step h]
theorem htF_keep (m : Nat) (h : mkB s i = false ∨ kdN gs i ≠ 2) : tab m (htF ps gs s i) = tab m (htF ps gs s (i + 1)) := tab_same fun q _ => by
  by_cases e : q = i
  · subst e
    unfold htF
    rcases h with h | h
    · rw [h]; rfl
    · rw [decide_eq_false (by omega), decide_eq_false fun h' => h h'.2.1]
  · exact htF_else q e
theorem prF_keep (m : Nat) (h : mkB s i = false ∨ kdN gs i ≠ 0) : tab m (prF gs s i) = tab m (prF gs s (i + 1)) := tab_same fun q _ => by
  by_cases e : q = i
  · subst e
    unfold prF
    rcases h with h | h
    · rw [h, Bool.and_false, Bool.and_false, Bool.false_and]
    · rw [decide_eq_false h, Bool.and_false, Bool.and_false]
  · exact prF_else q e
theorem vsF_keep (m : Nat) (h : mkB s i = false ∨ kdN gs i ≠ 1) : tab m (vsF gs s i) = tab m (vsF gs s (i + 1)) := tab_same fun q _ => by
  by_cases e : q = i
  · subst e
    unfold vsF
    rw [if_neg (by omega), if_neg]
    rintro ⟨_, h1, h2⟩
    rcases h with h | h
    · rw [h] at h1; cases h1
    · exact h h2
  · exact vsF_else q e
theorem fsF_keep (m : Nat) (h : mkB s i = false ∨ kdN gs i ≠ 2) : tab m (fsF ps gs s i) = tab m (fsF ps gs s (i + 1)) := tab_same fun q _ => by
  by_cases e : q = i
  · subst e
    unfold fsF
    rw [if_neg (by omega), if_neg]
    rintro ⟨_, h1, h2⟩
    rcases h with h | h
    · rw [h] at h1; cases h1
    · exact h h2
  · exact fsF_else q e
theorem prF_hit (hi : i < m) (h : mkB s i = true) (hk : kdN gs i = 0) : (tab m (prF gs s i)).set i false = tab m (prF gs s (i + 1)) :=
  tab_set hi (by unfold prF; rw [h, decide_eq_true hk, decide_eq_true (by omega)]; rfl) prF_else
theorem vsF_hit (hi : i < m) (h : mkB s i = true) (hk : kdN gs i = 1) : (tab m (vsF gs s i)).set i (i + 3 - (1 + ofN gs i)) = tab m (vsF gs s (i + 1)) :=
  tab_set hi (by unfold vsF; rw [if_pos ⟨by omega, h, hk⟩]) vsF_else
theorem fsF_hit (hi : i < m) (h : mkB s i = true) (hk : kdN gs i = 2) : (tab m (fsF ps gs s i)).set i (nth gs i) = tab m (fsF ps gs s (i + 1)) :=
  tab_set hi (by unfold fsF; rw [if_pos ⟨by omega, h, hk⟩]) fsF_else
theorem htF_hit (hi : i < m) (h : mkB s i = true) (hk : kdN gs i = 2) : (tab m (htF ps gs s i)).set i (!decide (nth gs i = nth ps i)) = tab m (htF ps gs s (i + 1)) :=
  tab_set hi (by
    unfold htF
    rw [h, Bool.true_and]
    by_cases e : nth gs i = nth ps i
    · rw [decide_eq_true e, decide_eq_true ⟨by omega, hk, e⟩]
    · rw [decide_eq_false e, decide_eq_false fun h' => e h'.2.2]) htF_else
theorem htF_at (q : Nat) : mkB s q = true → htF ps gs s q q = true := fun h => by unfold htF; rw [h, decide_eq_false (by omega)]; rfl
theorem htF_at0 {i : Nat} (q : Nat) (h : mkB s q = false) : htF ps gs s i q = false := by unfold htF; rw [h]; rfl
theorem vsF_at (q : Nat) : vsF gs s q q = q + 3 := by unfold vsF; rw [if_neg (by omega)]
theorem bad_is (hps : ps.length = m) :
    bdL (tab m fun q => q + 3) (tab m fun q => sumN 7 q (q + 3) (nth ps q)) (tab m (vsF gs s m)) (tab m (fsF ps gs s m)) (tab m (prF gs s m)) 7 m = tab m (htF ps gs s m) := by
  unfold bdL
  show tab m _ = _
  refine tab_same fun q hq => ?_
  show (!gdB _ _ 7 q (fvN _ _ q) (fbB _ _ q)) = _
  unfold gdB fvN fbB
  rw [tab_nth hq, tab_nth hq, tab_nth hq, tab_nth hq, tab_nth hq]
  unfold prF vsF fsF htF
  have hk := kdN_lt gs q
  have ho := ofN_lt gs q
  rw [decide_eq_true hq]
  cases hmk : mkB s q with
  | false => simp
  | true =>
    have h3 : kdN gs q = 0 ∨ kdN gs q = 1 ∨ kdN gs q = 2 := by omega
    rcases h3 with h3 | h3 | h3
    · simp [h3]
    · rw [h3]
      have : ¬ (q + 3 = q + 3 - (1 + ofN gs q)) := by omega
      simp [hq, this]
    · rw [h3]
      by_cases e : nth gs q = nth ps q
      · simp [hq, e]
      · have : ¬ sumN 7 q (q + 3) (nth ps q) = sumN 7 q (q + 3) (nth gs q) := fun h => e (sumN_inj h).symm
        simp [hq, e, this]
theorem cnt_tab {f g : Nat → Bool} (h : ∀ q, f q = true → g q = true) : ∀ k, k ≤ m → cnt (tab m f) k ≤ cnt (tab m g) k
  | 0, _ => Nat.le_refl _
  | k + 1, hk => by
    have ih := cnt_tab h k (by omega)
    show cnt (tab m f) k + (if nth (tab m f) k then 1 else 0) ≤ cnt (tab m g) k + (if nth (tab m g) k then 1 else 0)
    rw [tab_nth (by omega), tab_nth (by omega)]
    cases hf : f k with
    | false => rw [if_neg Bool.false_ne_true]; exact Nat.le_trans ih (Nat.le_add_right _ _)
    | true => rw [h k hf]; simp only [if_true]; omega
theorem mkL_tab (m s : Nat) : mkL m s = tab m (mkB s) := rfl
theorem hit_cnt (m : Nat) : cnt (tab m (htF ps gs s m)) m ≤ 3 := by
  have h1 := cnt_tab (m := m) (f := htF ps gs s m) (g := mkB s) (fun q h => by unfold htF at h; rw [Bool.and_eq_true] at h; exact h.1) m (Nat.le_refl _)
  have h2 := mkL_cnt (s := s) m (Nat.le_refl m)
  rw [mkL_tab] at h2
  have h3 := cnM_le s m
  omega
theorem mkN_cnt (bs : List Bool) : ∀ i, mkN bs i = cnt bs i
  | 0 => rfl
  | i + 1 => by
    have ih := mkN_cnt bs i
    unfold mkN at ih ⊢
    show (numL _ (i + 1)).length = cnt bs i + if nth bs i then 1 else 0
    rw [← ih, numL]
    cases nth bs i <;> simp
theorem found_dec {ds : List Blk} (hn : ds.length = n) (h1 : 1 ≤ n) (h2 : n ≤ 13) (hm : m = n + 3) : decL (tab m (fsF (ds ++ enc ds) gs s m)) (tab m (htF (ds ++ enc ds) gs s m)) n = ds ++ enc ds := by
  subst hm
  refine decL_group hn h1 h2 (hit_cnt _) fun q hq hb => ?_
  rw [tab_nth hq] at hb ⊢
  unfold fsF
  unfold htF at hb
  split
  · next h =>
    rw [h.2.1, Bool.true_and, Bool.not_eq_false', decide_eq_true_eq] at hb
    exact hb.2.2
  · rfl
theorem found_good {q : Nat} (hq : q < m) (hb : nth (tab m (htF ps gs s m)) q = false) : nth (tab m (fsF ps gs s m)) q = nth ps q := by
  rw [tab_nth hq] at hb ⊢
  unfold fsF
  unfold htF at hb
  split
  · next h =>
    rw [h.2.1, Bool.true_and, Bool.not_eq_false', decide_eq_true_eq] at hb
    exact hb.2.2
  · rfl
section
variable (ps : List Blk)
def v1F (i q : Nat) : Nat := if q < i then q + 3 else 0
def s1F (i q : Nat) : Nat := if q < i then sumN 7 q (q + 3) (nth ps q) else sumN 7 q 0 0
def p1F (i q : Nat) : Bool := decide (q < i)
end
theorem v1F_zero (m : Nat) : tab m (v1F 0) = tab m fun _ => 0 := tab_same fun q _ => by unfold v1F; rw [if_neg (by omega)]
theorem s1F_zero (m : Nat) : tab m (s1F ps 0) = tab m fun q => sumN 7 q 0 0 := tab_same fun q _ => by unfold s1F; rw [if_neg (by omega)]
theorem p1F_zero (m : Nat) : tab m (p1F 0) = tab m fun _ => false := tab_same fun q _ => by unfold p1F; exact decide_eq_false (by omega)
theorem v1F_set (hi : i < m) : (tab m (v1F i)).set i (i + 3) = tab m (v1F (i + 1)) := tab_set hi (by unfold v1F; rw [if_pos (by omega)]) fun q h => by unfold v1F; simp only [lt_step h]
theorem s1F_set (hi : i < m) : (tab m (s1F ps i)).set i (sumN 7 i (i + 3) (nth ps i)) = tab m (s1F ps (i + 1)) := tab_set hi (by unfold s1F; rw [if_pos (by omega)]) fun q h => by unfold s1F; simp only [lt_step h]
theorem p1F_set (hi : i < m) : (tab m (p1F i)).set i true = tab m (p1F (i + 1)) := tab_set hi (by unfold p1F; exact decide_eq_true (by omega)) fun q h => by unfold p1F; simp only [lt_step h]
theorem v1F_all (m : Nat) : tab m (v1F m) = tab m fun q => q + 3 := tab_same fun q h => by unfold v1F; rw [if_pos h]
theorem s1F_all (m : Nat) : tab m (s1F ps m) = tab m fun q => sumN 7 q (q + 3) (nth ps q) := tab_same fun q h => by unfold s1F; rw [if_pos h]
theorem p1F_all (m : Nat) : tab m (p1F m) = tab m fun _ => true := tab_same fun q h => by unfold p1F; exact decide_eq_true h
theorem made_u64 (n : Nat) : (madeCells (Value.int .u64 0).cells (n * 1)).toList = u64s (tab n fun _ => 0) := by
  rw [show (Value.int .u64 0).cells = #[.int .u64 0] from rfl, made_one, ← tab_rep]; simp
theorem made_bo' (n : Nat) : (madeCells (Value.bool false).cells (n * 1)).toList = bls (tab n fun _ => false) := by rw [made_bo, tab_rep]
theorem pw_spl (g p v : Int) (b : Blk) : spls (plT Tryz.prog 43) (iv 0 :: iv 0 :: .int .u64 0 :: z8) [(0, [iv g]), (1, [iv p]), (2, [.int .u64 v]), (3, b.cells)] = iv g :: iv p :: .int .u64 v :: b.cells := by
  obtain ⟨l, hl⟩ := b
  match l, hl with
  | [b0, b1, b2, b3, b4, b5, b6, b7], _ => rfl
end Go.Proofs.YtdcijljfgcjelaaGreat
