/- The plain law of fair picks: sums, bounds, who is picked how often. No condition. -/
import Derived.Test.YtbofagfilohhfaaStp9
namespace Go.Proofs.Ytbofagfilohhfaa
open Go.RowKit
set_option maxRecDepth 20000
/-- The sum of the first values. -/
def sumF (f : Nat → Int) : Nat → Int
  | 0 => 0
  | n + 1 => sumF f n + f n
theorem sumF_congr {f g : Nat → Int} : ∀ {n : Nat}, (∀ k, k < n → f k = g k) → sumF f n = sumF g n
  | 0, _ => rfl
  | n + 1, h => by rw [sumF, sumF, sumF_congr fun k hk => h k (by omega), h n (by omega)]
theorem sumF_upd {f g : Nat → Int} {b : Nat} {x : Int} : ∀ {n : Nat}, b < n → (∀ k, k < n → k ≠ b → g k = f k) → g b = f b + x → sumF g n = sumF f n + x
  | 0, h, _, _ => absurd h (by omega)
  | n + 1, h, h1, h2 => by
    rw [sumF, sumF]
    by_cases e : b = n
    · subst e
      rw [sumF_congr (f := g) (g := f) fun k hk => h1 k (by omega) (by omega), h2]; omega
    · rw [sumF_upd (n := n) (by omega) (fun k hk => h1 k (by omega)) h2, h1 n (by omega) (fun x => e x.symm)]; omega
theorem sumF_lin {f g : Nat → Int} (a b : Int) : ∀ n, sumF (fun k => a * f k - b * g k) n = a * sumF f n - b * sumF g n
  | 0 => by simp [sumF]
  | n + 1 => by rw [sumF, sumF, sumF, sumF_lin a b n, Int.mul_add, Int.mul_add]; omega
theorem sumF_add {f g : Nat → Int} : ∀ n, sumF (fun k => f k + g k) n = sumF f n + sumF g n
  | 0 => by simp [sumF]
  | n + 1 => by rw [sumF, sumF, sumF, sumF_add n]; omega
theorem sumF_le {f g : Nat → Int} : ∀ {n : Nat}, (∀ k, k < n → f k ≤ g k) → sumF f n ≤ sumF g n
  | 0, _ => by simp [sumF]
  | n + 1, h => by
    rw [sumF, sumF]
    have := sumF_le (n := n) fun k hk => h k (by omega)
    have := h n (by omega)
    omega
theorem sumF_bnd {f : Nat → Int} {B : Int} : ∀ {n : Nat}, (∀ k, k < n → -B ≤ f k ∧ f k ≤ B) → -(B * n) ≤ sumF f n ∧ sumF f n ≤ B * n
  | 0, _ => by simp [sumF]
  | n + 1, h => by
    have h1 := sumF_bnd (n := n) fun k hk => h k (by omega)
    have h2 := h n (by omega)
    have e : B * ((n + 1 : Nat) : Int) = B * n + B := by rw [Int.natCast_add, Int.mul_add]; simp
    rw [sumF, e]
    omega
/-- Below each other and of one sum: equal. -/
theorem sumF_eq {f g : Nat → Int} : ∀ {n : Nat}, (∀ k, k < n → f k ≤ g k) → sumF f n = sumF g n → ∀ k, k < n → f k = g k
  | 0, _, _, k, hk => absurd hk (by omega)
  | n + 1, h, he, k, hk => by
    rw [sumF, sumF] at he
    have h1 := sumF_le (n := n) fun k hk => h k (by omega)
    have h2 := h n (by omega)
    have h3 : sumF f n = sumF g n := by omega
    by_cases e : k = n
    · subst e; omega
    · exact sumF_eq (fun k hk => h k (by omega)) h3 k (by omega)
theorem sumF_pos {f : Nat → Int} : ∀ {n : Nat}, 0 < sumF f n → ∃ k, k < n ∧ 0 < f k
  | 0, h => absurd h (by simp [sumF])
  | n + 1, h => by
    rw [sumF] at h
    by_cases e : 0 < f n
    · exact ⟨n, by omega, e⟩
    · obtain ⟨k, h1, h2⟩ := sumF_pos (f := f) (n := n) (by omega)
      exact ⟨k, by omega, h2⟩
theorem sumW_sumF (es : List En) : ∀ n, sumW es n = sumF (fun k => (nth es k).wt) n
  | 0 => rfl
  | n + 1 => by rw [sumW, sumF, sumW_sumF es n]
theorem bst_max (es : List En) : ∀ i k, k < i → (nth es k).cr ≤ (nth es (bst es i)).cr
  | 0, _, h => absurd h (by omega)
  | i + 1, k, h => by
    have ih := bst_max es i
    rw [bst]
    by_cases e : k = i
    · subst e
      split <;> omega
    · have := ih k (by omega)
      split <;> omega
/-- Weights in their bounds, credits in those that are named. -/
def BndK (es : List En) (B : Int) : Prop := ∀ i, i < es.length → 1 ≤ (nth es i).wt ∧ (nth es i).wt ≤ 16 ∧ -B ≤ (nth es i).cr ∧ (nth es i).cr ≤ B
theorem BndK.bnd {es : List En} {B : Int} (h : BndK es B) (hB : B ≤ 1000000000) : Bnd es := fun i hi => by have := h i hi; omega
theorem BndK.mono {es : List En} {B C : Int} (h : BndK es B) (hB : B ≤ C) : BndK es C := fun i hi => by have := h i hi; omega
theorem BndK.fairw {es : List En} {B : Int} (h : BndK es B) (hB0 : 0 ≤ B) (hB : B ≤ 900000000) (hm : es.length ≤ 64) (h0 : 1 ≤ es.length) : BndK (fairW es) (B + 2000) := fun i hi => by
  rw [fairW_len] at hi
  have h1 := h i hi
  have h2 := sumW_bnd (h.bnd (by omega)) es.length (Nat.le_refl _)
  rw [fairW_at h0 hi]
  split
  · show 1 ≤ (nth es i).wt ∧ (nth es i).wt ≤ 16 ∧ _ ≤ (nth es i).cr + (nth es i).wt - sumW es es.length ∧ (nth es i).cr + (nth es i).wt - sumW es es.length ≤ _
    omega
  · show 1 ≤ (nth es i).wt ∧ (nth es i).wt ≤ 16 ∧ _ ≤ (nth es i).cr + (nth es i).wt ∧ (nth es i).cr + (nth es i).wt ≤ _
    omega
theorem BndK.sub {es es' : List En} {B : Int} (h : BndK es B) (hs : es'.Sublist es) : BndK es' B := fun i hi => by
  have : nth es' i ∈ es := hs.subset (nth_mem hi)
  obtain ⟨j, hj, he⟩ := List.getElem_of_mem this
  have := h j hj
  rw [nth_eq hj, he] at this
  exact this
theorem BndK.stp {es : List En} {B : Int} (h : BndK es B) (js : List Jb) (k : Nat) : BndK (stpE es js k) B := by
  unfold stpE
  split
  · exact h.sub (List.eraseIdx_sublist _ _)
  · exact h
theorem BndK.fair {es : List En} {B : Int} (h : BndK es B) (js : List Jb) (hB0 : 0 ≤ B) (hB : B ≤ 900000000) (hm : es.length ≤ 64) (h0 : 1 ≤ es.length) : BndK (fairE es js) (B + 2000) := (h.fairw hB0 hB hm h0).stp _ _
/-! ### Who is picked how often -/
/-- After t fair picks of machines that never end. -/
structure FSt (ws : List Int) (t : Nat) (es : List En) (js : List Jb) : Prop where
  wt : ∀ k, k < ws.length → 1 ≤ nth ws k ∧ nth ws k ≤ 16
  len : es.length = ws.length
  lenj : js.length = ws.length
  at_ : ∀ k, k < ws.length → (nth es k).id = (k : Int) + 1 ∧ (nth es k).wt = nth ws k ∧ (nth es k).j = (nth js k).b ∧ (nth es k).cr = t * nth ws k - sumF (nth ws) ws.length * (nth js k).d ∧ (nth js k).l = -(nth js k).d ∧ 0 ≤ (nth js k).d ∧ (nth js k).d ≤ t ∧ -sumF (nth ws) ws.length < (nth es k).cr
  sum : sumF (fun k => (nth js k).d) ws.length = t
theorem pair_of_ids {es : List En} (h : ∀ k, k < es.length → (nth es k).id = (k : Int) + 1) : es.Pairwise fun a b => a.id < b.id := by
  rw [List.pairwise_iff_getElem]
  intro i j hi hj hij
  rw [← nth_eq hi, ← nth_eq hj, h i hi, h j hj]
  omega
theorem FSt.ok {ws : List Int} {t : Nat} {es : List En} {js : List Jb} (h : FSt ws t es js) : Ok es js := by
  refine ⟨fun e he => ?_, pair_of_ids fun k hk => (h.at_ k (by rw [← h.len]; exact hk)).1⟩
  obtain ⟨k, hk, rfl⟩ := List.getElem_of_mem he
  have hk' : k < ws.length := by rw [← h.len]; exact hk
  obtain ⟨h1, h2, h3, _⟩ := h.at_ k hk'
  have h4 := h.wt k hk'
  rw [← nth_eq hk]
  have hq : (nth es k).q = k := by unfold En.q; omega
  refine ⟨by omega, by rw [h.lenj]; omega, by rw [hq, h3], by omega, by omega⟩
theorem FSt.q {ws : List Int} {t : Nat} {es : List En} {js : List Jb} (h : FSt ws t es js) {k : Nat} (hk : k < ws.length) : (nth es k).q = k := by
  have := (h.at_ k hk).1
  unfold En.q; omega
theorem FSt.sumW {ws : List Int} {t : Nat} {es : List En} {js : List Jb} (h : FSt ws t es js) : Go.Proofs.Ytbofagfilohhfaa.sumW es es.length = sumF (nth ws) ws.length := by
  rw [sumW_sumF, h.len]
  exact sumF_congr fun k hk => (h.at_ k hk).2.1
theorem FSt.zero {ws : List Int} {t : Nat} {es : List En} {js : List Jb} (h : FSt ws t es js) : sumF (fun k => (nth es k).cr) ws.length = 0 := by
  rw [sumF_congr (g := fun k => t * nth ws k - sumF (nth ws) ws.length * (nth js k).d) fun k hk => (h.at_ k hk).2.2.2.1, sumF_lin, h.sum, Int.mul_comm]; omega
theorem wr_in {x : Int} (h : -9223372036854775808 ≤ x ∧ x ≤ 9223372036854775807) : wr x = x := IntWalk.i64_in _ h
theorem FSt.live {ws : List Int} {t : Nat} {es : List En} {js : List Jb} (h : FSt ws t es js) (ht : t ≤ 1000000) {k : Nat} (hk : k < ws.length) : (nth js k).stp.l = -(nth js k).d - 1 ∧ (nth js k).stp.d = (nth js k).d + 1 := by
  obtain ⟨_, _, _, _, h5, h6, h7, _⟩ := h.at_ k hk
  unfold Jb.stp
  exact ⟨by show wr ((nth js k).l - 1) = _; rw [wr_in (by omega)]; omega, by show wr ((nth js k).d + 1) = _; rw [wr_in (by omega)]⟩
theorem FSt.step {ws : List Int} {t : Nat} {es : List En} {js : List Jb} (h : FSt ws t es js) (h0 : 1 ≤ ws.length) (ht : t ≤ 1000000) :
    FSt ws (t + 1) (fairE es js) (fairJ es js) ∧ (nth js (nth es (fairB es)).q).stp.l ≠ 0 := by
  have hl1 : 1 ≤ es.length := by rw [h.len]; exact h0
  have hb := fairB_lt hl1
  have hbw : fairB es < ws.length := by rw [← h.len]; exact hb
  have hlv := h.live ht hbw
  have hab := h.at_ _ hbw
  have hqb := h.q hbw
  have hne : (nth js (nth es (fairB es)).q).stp.l ≠ 0 := by rw [hqb, hlv.1]; omega
  have hqf : (nth (fairW es) (fairB es)).q = fairB es := by
    rw [fairW_at hl1 hb, if_pos rfl]; exact hqb
  have hE : fairE es js = fairW es := by unfold fairE stpE; rw [hqf]; rw [hqb] at hne; rw [if_neg hne]
  have hJ : fairJ es js = js.set (fairB es) (nth js (fairB es)).stp := by unfold fairJ stpJ; rw [hqf]
  have hjb : fairB es < js.length := by rw [h.lenj]; exact hbw
  have hjn : ∀ k, k < ws.length → nth (js.set (fairB es) (nth js (fairB es)).stp) k = if k = fairB es then (nth js (fairB es)).stp else nth js k := fun k hk => by
    have hk' : k < js.length := by rw [h.lenj]; exact hk
    rw [nth_eq (by rw [List.length_set]; exact hk'), List.getElem_set]
    by_cases e : k = fairB es
    · rw [if_pos e.symm, if_pos e]
    · rw [if_neg (fun x => e x.symm), if_neg e, nth_eq hk']
  -- the greatest one is above nothing
  have hmax : 0 < (nth es (fairB es)).add.cr := by
    have hs : sumF (fun k => (nth es k).add.cr) ws.length = sumF (nth ws) ws.length := by
      have e1 : sumF (fun k => (nth es k).add.cr) ws.length = sumF (fun k => (nth es k).cr + nth ws k) ws.length := sumF_congr fun k hk => by
        show (nth es k).cr + (nth es k).wt = _
        rw [(h.at_ k hk).2.1]
      rw [e1, sumF_add, h.zero]; omega
    have hW : 0 < sumF (nth ws) ws.length := by
      have := sumF_le (f := fun _ => 0) (g := nth ws) (n := ws.length - 1) fun k hk => by have := h.wt k (by omega); omega
      have h3 := h.wt (ws.length - 1) (by omega)
      have e : sumF (nth ws) ws.length = sumF (nth ws) (ws.length - 1) + nth ws (ws.length - 1) := by
        rw [show ws.length = ws.length - 1 + 1 from by omega]; rfl
      have e0 : ∀ n, sumF (fun _ => 0) n = 0 := fun n => by induction n with
        | zero => rfl
        | succ n ih => rw [sumF, ih]; rfl
      rw [e0] at this
      omega
    obtain ⟨k, hk, hp⟩ := sumF_pos (by rw [hs]; exact hW)
    have hk' : k < es.length := by rw [h.len]; exact hk
    have := bst_max (es.map En.add) es.length k hk'
    rw [nth_add hk', nth_add (show bst (es.map En.add) es.length < es.length from hb)] at this
    exact Int.lt_of_lt_of_le hp this
  rw [hE, hJ]
  refine ⟨⟨h.wt, by rw [fairW_len]; exact h.len, by rw [List.length_set]; exact h.lenj, fun k hk => ?_, ?_⟩, hne⟩
  · obtain ⟨a1, a2, a3, a4, a5, a6, a7, a8⟩ := h.at_ k hk
    have hk' : k < es.length := by rw [h.len]; exact hk
    have et : ((t + 1 : Nat) : Int) * nth ws k = t * nth ws k + nth ws k := by rw [Int.natCast_add, Int.add_mul]; simp
    have hwk := h.wt k hk
    rw [fairW_at hl1 hk', hjn k hk, et]
    by_cases e : k = fairB es
    · rw [if_pos e, if_pos e, ← e]
      rw [← e] at hlv hmax hab
      have eW : sumF (nth ws) ws.length * ((nth js k).d + 1) = sumF (nth ws) ws.length * (nth js k).d + sumF (nth ws) ws.length := by rw [Int.mul_add]; simp
      refine ⟨a1, a2, a3, ?_, ?_, ?_, ?_, ?_⟩
      · show (nth es k).cr + (nth es k).wt - Go.Proofs.Ytbofagfilohhfaa.sumW es es.length = _
        rw [h.sumW, hlv.2, eW, a2]; omega
      · rw [hlv.1, hlv.2]; omega
      · rw [hlv.2]; omega
      · rw [hlv.2]; omega
      · show _ < (nth es k).cr + (nth es k).wt - Go.Proofs.Ytbofagfilohhfaa.sumW es es.length
        have : 0 < (nth es k).cr + (nth es k).wt := hmax
        rw [h.sumW]; omega
    · rw [if_neg e, if_neg e]
      refine ⟨a1, a2, a3, ?_, a5, a6, by omega, ?_⟩
      · show (nth es k).cr + (nth es k).wt = _
        rw [a2]; omega
      · show _ < (nth es k).cr + (nth es k).wt
        omega
  · rw [sumF_upd (f := fun k => (nth js k).d) (b := fairB es) (x := 1) hbw (fun k hk e => by
      show (nth (js.set _ _) k).d = _; rw [hjn k hk, if_neg e]) (by
      show (nth (js.set _ _) (fairB es)).d = _; rw [hjn _ hbw, if_pos rfl, hlv.2]), h.sum]
    simp
/-- After as many picks as all weights together, r times. -/
theorem FSt.full {ws : List Int} {r t : Nat} {es : List En} {js : List Jb} (h : FSt ws t es js) (ht : (t : Int) = r * sumF (nth ws) ws.length) {k : Nat} (hk : k < ws.length) : (nth js k).d = r * nth ws k ∧ (nth es k).cr = 0 := by
  have hle : ∀ k, k < ws.length → (nth js k).d ≤ r * nth ws k := fun k hk => by
    obtain ⟨_, _, _, a4, _, _, _, a8⟩ := h.at_ k hk
    rw [a4, ht, show (r : Int) * sumF (nth ws) ws.length * nth ws k = sumF (nth ws) ws.length * (r * nth ws k) from by rw [Int.mul_comm (r : Int), Int.mul_assoc], ← Int.mul_sub] at a8
    apply Int.le_of_not_gt
    intro hgt
    have hW : 0 ≤ sumF (nth ws) ws.length := by
      have := sumF_bnd (f := fun _ => 0) (B := 0) (n := ws.length) (fun _ _ => by omega)
      have h2 := sumF_le (f := fun _ => 0) (g := nth ws) (n := ws.length) fun k hk => by have := h.wt k hk; omega
      omega
    have : sumF (nth ws) ws.length * (r * nth ws k - (nth js k).d) ≤ sumF (nth ws) ws.length * (-1) := Int.mul_le_mul_of_nonneg_left (by omega) hW
    omega
  have hs : sumF (fun k => (nth js k).d) ws.length = sumF (fun k => r * nth ws k) ws.length := by
    have := sumF_lin (f := nth ws) (g := fun _ => 0) (r : Int) 0 ws.length
    rw [h.sum, ht, sumF_congr (f := fun k => r * nth ws k) (g := fun k => r * nth ws k - 0 * 0) (fun _ _ => by simp), this]
    simp
  have he := sumF_eq hle hs k hk
  refine ⟨he, ?_⟩
  obtain ⟨_, _, _, a4, _⟩ := h.at_ k hk
  rw [a4, he, ht, Int.mul_comm (r : Int), Int.mul_assoc, Int.sub_self]
theorem sumF_zero : ∀ n, sumF (fun _ => 0) n = 0
  | 0 => rfl
  | n + 1 => by rw [sumF, sumF_zero n]; rfl
theorem FSt.bnd {ws : List Int} {t : Nat} {es : List En} {js : List Jb} (h : FSt ws t es js) (ht : t ≤ 1000000) (hn : ws.length ≤ 64) : Bnd es := fun k hk => by
  rw [h.len] at hk
  obtain ⟨_, a2, _, a4, _, a6, _, a8⟩ := h.at_ k hk
  have hw := h.wt k hk
  have h1 := sumF_bnd (f := nth ws) (B := 16) (n := ws.length) fun k hk => by have := h.wt k hk; omega
  have h2 : (t : Int) * nth ws k ≤ t * 16 := Int.mul_le_mul_of_nonneg_left hw.2 (by omega)
  have h3 : 0 ≤ sumF (nth ws) ws.length := by
    have := sumF_le (f := fun _ => 0) (g := nth ws) (n := ws.length) fun k hk => by have := h.wt k hk; omega
    rw [sumF_zero] at this; exact this
  have h4 : 0 ≤ sumF (nth ws) ws.length * (nth js k).d := Int.mul_nonneg h3 a6
  omega
/-! ### The machines that a list lays -/
def jptrs (js : List Jb) : List Value := js.map fun j => bp j.b
theorem jptrs_get {js : List Jb} {k : Nat} (h : k < js.length) : (jptrs js)[k * 1]? = some (bp (nth js k).b) := by
  rw [Nat.mul_one, jptrs, List.getElem?_map, List.getElem?_eq_getElem h, nth_eq h]; rfl
theorem jptrs_new (js : List Jb) (j : Jb) : jptrs js ++ [bp j.b] = jptrs (js ++ [j]) := by simp [jptrs]
theorem elM : Elem Try.prog 36 MT (.pointer none) 1 8 := ⟨by kernel_rfl, by kernel_rfl, rfl, by decide⟩
theorem jptrs_set {js : List Jb} {k : Nat} {j : Jb} (h : j.b = (nth js k).b) : jptrs (js.set k j) = jptrs js := by
  by_cases hk : k < js.length
  · unfold jptrs
    rw [List.map_set, h, nth_eq hk]
    have : bp js[k].b = (js.map fun j => bp j.b)[k]'(by simpa using hk) := by rw [List.getElem_map]
    rw [this, List.set_getElem_self]
  · rw [List.set_eq_of_length_le (by omega)]
theorem jptrs_stp (es : List En) (js : List Jb) (k : Nat) : jptrs (stpJ es js k) = jptrs js := jptrs_set rfl
/-- After i machines were added. -/
structure Bld (ws ls : Nat → Int) (i : Nat) (es : List En) (js : List Jb) : Prop where
  len : es.length = i
  lenj : js.length = i
  at_ : ∀ k, k < i → (nth es k).id = (k : Int) + 1 ∧ (nth es k).wt = ws k ∧ (nth es k).cr = 0 ∧ (nth es k).j = (nth js k).b ∧ (nth js k).l = ls k ∧ (nth js k).d = 0
theorem Bld.zero (ws ls : Nat → Int) : Bld ws ls 0 [] [] := ⟨rfl, rfl, fun k hk => absurd hk (by omega)⟩
theorem nth_app {α : Type} [Inhabited α] {l : List α} {a : α} {k : Nat} (h : k < l.length + 1) : nth (l ++ [a]) k = if k = l.length then a else nth l k := by
  rw [nth_eq (by simpa using h)]
  by_cases e : k = l.length
  · subst e; rw [if_pos rfl]; simp
  · rw [if_neg e, List.getElem_append_left (by omega), nth_eq (by omega)]
theorem Bld.add {ws ls : Nat → Int} {i p j : Nat} {es : List En} {js : List Jb} {wt l : Int} (h : Bld ws ls i es js) (hw : wt = ws i) (hl : l = ls i) : Bld ws ls (i + 1) (es ++ [⟨p, (i : Int) + 1, wt, 0, j⟩]) (js ++ [⟨j, l, 0⟩]) := by
  refine ⟨by simp [h.len], by simp [h.lenj], fun k hk => ?_⟩
  rw [nth_app (by rw [h.len]; exact hk), nth_app (by rw [h.lenj]; exact hk), h.len, h.lenj]
  by_cases e : k = i
  · subst e
    rw [if_pos rfl, if_pos rfl]
    exact ⟨rfl, hw, rfl, rfl, hl, rfl⟩
  · rw [if_neg e, if_neg e]
    exact h.at_ k (by omega)
theorem Bld.fs {ws : List Int} {es : List En} {js : List Jb} (h : Bld (nth ws) (fun _ => 0) ws.length es js) (hw : ∀ k, k < ws.length → 1 ≤ nth ws k ∧ nth ws k ≤ 16) (h0 : ∀ k, k < ws.length → 0 < sumF (nth ws) ws.length) : FSt ws 0 es js := by
  refine ⟨hw, h.len, h.lenj, fun k hk => ?_, ?_⟩
  · obtain ⟨a1, a2, a3, a4, a5, a6⟩ := h.at_ k hk
    have := h0 k hk
    refine ⟨a1, a2, a4, ?_, by rw [a5, a6]; rfl, by omega, by omega, by omega⟩
    rw [a3, a6, Int.mul_zero]; simp
  · rw [sumF_congr (g := fun _ => 0) fun k hk => (h.at_ k hk).2.2.2.2.2, sumF_zero]; rfl
theorem crI_self {es : List En} (h : es.Pairwise fun a b => a.id < b.id) {k : Nat} (hk : k < es.length) : crI es (nth es k).id = (nth es k).cr := by
  unfold crI
  rw [idN_self h hk, if_pos hk]
theorem ids_get {es : List En} {k : Nat} (hk : k < es.length) : (ivs (idsL es))[k * 1]? = some (iv (nth es k).id) := by
  rw [Nat.mul_one, ivs, idsL, List.map_map, List.getElem?_map, List.getElem?_eq_getElem hk, nth_eq hk]; rfl
end Go.Proofs.Ytbofagfilohhfaa
