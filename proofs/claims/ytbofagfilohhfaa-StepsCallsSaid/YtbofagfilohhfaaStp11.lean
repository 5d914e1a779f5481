/- The plain law of machines that end. No condition. -/
import Derived.Test.YtbofagfilohhfaaStp10
namespace Go.Proofs.Ytbofagfilohhfaa
open Go.RowKit
set_option maxRecDepth 20000
/-- After k of T fair picks of n machines. -/
structure ES (n T k : Nat) (es : List En) (js : List Jb) : Prop where
  ok : Ok es js
  len : es.length ≤ n
  lenj : js.length = n
  bnd : BndK es (2000 * k)
  rng : ∀ q, q < n → 0 ≤ (nth js q).l ∧ (nth js q).l ≤ 20 ∧ 0 ≤ (nth js q).d ∧ (nth js q).d ≤ k
  a : ∀ i, i < es.length → 1 ≤ (nth js (nth es i).q).l
  b : ∀ q, q < n → 1 ≤ (nth js q).l → ∃ i, i < es.length ∧ (nth es i).q = q
  sum : sumF (fun q => (nth js q).l) n = (T : Int) - k
theorem Ok.apart {es : List En} {js : List Jb} (h : Ok es js) {i k : Nat} (hi : i < es.length) (hk : k < es.length) (he : (nth es i).q = (nth es k).q) : i = k := by
  have h1 := h.at hi
  have h2 := h.at hk
  have e : (nth es i).id = (nth es k).id := by unfold En.q at he; omega
  have p := List.pairwise_iff_getElem.1 h.ord
  rw [nth_eq hi, nth_eq hk] at e
  rcases Nat.lt_trichotomy i k with h3 | h3 | h3
  · have := p i k hi hk h3; omega
  · exact h3
  · have := p k i hk hi h3; omega
theorem fairW_q {es : List En} {i : Nat} (h0 : 1 ≤ es.length) (h : i < es.length) : (nth (fairW es) i).q = (nth es i).q := by
  rw [fairW_at h0 h]
  split <;> rfl
theorem ES.some {n T k : Nat} {es : List En} {js : List Jb} (h : ES n T k es js) (hk : k < T) : 1 ≤ es.length := by
  have h1 := h.sum
  obtain ⟨q, hq, hp⟩ := sumF_pos (f := fun q => (nth js q).l) (n := n) (by omega)
  obtain ⟨i, hi, _⟩ := h.b q hq hp
  omega
theorem ES.done {n T : Nat} {es : List En} {js : List Jb} (h : ES n T T es js) : es.length = 0 ∧ ∀ q, q < n → (nth js q).l = 0 := by
  have h1 := h.sum
  rw [Int.sub_self] at h1
  have h2 : ∀ q, q < n → (nth js q).l = 0 := fun q hq => by
    have := sumF_eq (f := fun _ => 0) (g := fun q => (nth js q).l) (fun q hq => (h.rng q hq).1) (by rw [sumF_zero, h1]) q hq
    exact this.symm
  refine ⟨?_, h2⟩
  rcases Nat.eq_zero_or_pos es.length with e | e
  · exact e
  · have h3 := h.a 0 e
    have h4 := h.ok.q e
    rw [h2 _ (by rw [← h.lenj]; exact h4)] at h3
    omega
theorem ES.step {n T k : Nat} {es : List En} {js : List Jb} (h : ES n T k es js) (h0 : 1 ≤ es.length) (hn : n ≤ 64) (hk : k ≤ 100000) : ES n T (k + 1) (fairE es js) (fairJ es js) := by
  have hb := fairB_lt h0
  have hq := h.ok.q hb
  rw [h.lenj] at hq
  obtain ⟨r1, r2, r3, r4⟩ := h.rng _ hq
  have hl1 := h.a _ hb
  have hqf := fairW_q h0 hb
  have hsl : (nth js (nth es (fairB es)).q).stp.l = (nth js (nth es (fairB es)).q).l - 1 := by
    show wr ((nth js (nth es (fairB es)).q).l - 1) = _
    rw [wr_in (by omega)]
  have hsd : (nth js (nth es (fairB es)).q).stp.d = (nth js (nth es (fairB es)).q).d + 1 := by
    show wr ((nth js (nth es (fairB es)).q).d + 1) = _
    rw [wr_in (by omega)]
  have hJ : fairJ es js = js.set (nth es (fairB es)).q (nth js (nth es (fairB es)).q).stp := by unfold fairJ stpJ; rw [hqf]
  have hjn : ∀ q, q < n → nth (fairJ es js) q = if q = (nth es (fairB es)).q then (nth js (nth es (fairB es)).q).stp else nth js q := fun q hq' => by
    have hq'' : q < js.length := by rw [h.lenj]; exact hq'
    rw [hJ, nth_eq (by rw [List.length_set]; exact hq''), List.getElem_set]
    by_cases e : q = (nth es (fairB es)).q
    · rw [if_pos e.symm, if_pos e]
    · rw [if_neg (fun x => e x.symm), if_neg e, nth_eq hq'']
  have hE : fairE es js = if (nth js (nth es (fairB es)).q).stp.l = 0 then (fairW es).eraseIdx (fairB es) else fairW es := by unfold fairE stpE; rw [hqf]
  have hel : (fairE es js).length ≤ es.length := by
    rw [hE]
    split
    · rw [List.length_eraseIdx_of_lt (by rw [fairW_len]; exact hb), fairW_len]; omega
    · rw [fairW_len]; exact Nat.le_refl _
  -- where an entry comes from
  have hfrom : ∀ i, i < (fairE es js).length → ∃ m, m < es.length ∧ (nth (fairE es js) i).q = (nth es m).q ∧ ((nth js (nth es (fairB es)).q).stp.l = 0 → m ≠ fairB es) := fun i hi => by
    have hm := nth_mem hi
    by_cases hz : (nth js (nth es (fairB es)).q).stp.l = 0
    · have hm' : nth (fairE es js) i ∈ (fairW es).eraseIdx (fairB es) := by rw [if_pos hz] at hE; rw [hE] at hm; rw [hE]; exact hm
      obtain ⟨m, hm1, hm2, hm3⟩ := List.mem_eraseIdx_iff_getElem.1 hm'
      rw [fairW_len] at hm1
      refine ⟨m, hm1, ?_, fun _ => hm2⟩
      rw [← hm3, ← nth_eq, fairW_q h0 hm1]
    · have hm' : nth (fairE es js) i ∈ fairW es := by rw [if_neg hz] at hE; rw [hE] at hm; rw [hE]; exact hm
      obtain ⟨m, hm1, hm3⟩ := List.getElem_of_mem hm'
      rw [fairW_len] at hm1
      refine ⟨m, hm1, ?_, fun e => absurd e hz⟩
      rw [← hm3, ← nth_eq, fairW_q h0 hm1]
  have hto : ∀ m, m < es.length → ((nth js (nth es (fairB es)).q).stp.l = 0 → m ≠ fairB es) → ∃ i, i < (fairE es js).length ∧ (nth (fairE es js) i).q = (nth es m).q := fun m hm hne => by
    have hmem : nth (fairW es) m ∈ fairE es js := by
      rw [hE]
      split
      · rename_i hz
        exact List.mem_eraseIdx_iff_getElem.2 ⟨m, by rw [fairW_len]; exact hm, hne hz, (nth_eq _).symm⟩
      · exact nth_mem (by rw [fairW_len]; exact hm)
    obtain ⟨i, hi, he⟩ := List.getElem_of_mem hmem
    exact ⟨i, hi, by rw [nth_eq hi, he, fairW_q h0 hm]⟩
  have hmn : es.length ≤ 64 := Nat.le_trans h.len hn
  refine ⟨h.ok.fair h0, Nat.le_trans hel h.len, by rw [hJ, List.length_set]; exact h.lenj, ?_, fun q hq' => ?_, fun i hi => ?_, fun q hq' h1 => ?_, ?_⟩
  · exact (h.bnd.fair js (by omega) (by omega) hmn h0).mono (by omega)
  · have := h.rng q hq'
    rw [hjn q hq']
    split
    · rw [hsl, hsd]; omega
    · omega
  · obtain ⟨m, hm, he, hne⟩ := hfrom i hi
    have hqm : (nth es m).q < n := by rw [← h.lenj]; exact h.ok.q hm
    rw [he, hjn _ hqm]
    by_cases e : (nth es m).q = (nth es (fairB es)).q
    · rw [if_pos e]
      have hmb := h.ok.apart hm hb e
      have hz : (nth js (nth es (fairB es)).q).stp.l ≠ 0 := fun z => hne z hmb
      rw [hsl] at hz ⊢
      omega
    · rw [if_neg e]; exact h.a m hm
  · rw [hjn q hq'] at h1
    by_cases e : q = (nth es (fairB es)).q
    · rw [if_pos e] at h1
      obtain ⟨i, hi, he⟩ := hto (fairB es) hb fun z => by omega
      exact ⟨i, hi, by rw [he, e]⟩
    · rw [if_neg e] at h1
      obtain ⟨m, hm, hem⟩ := h.b q hq' h1
      obtain ⟨i, hi, he⟩ := hto m hm fun _ x => by subst x; exact e hem.symm
      exact ⟨i, hi, by rw [he, hem]⟩
  · rw [sumF_upd (f := fun q => (nth js q).l) (b := (nth es (fairB es)).q) (x := -1) hq (fun q hq' e => by
      show (nth (fairJ es js) q).l = _; rw [hjn q hq', if_neg e]) (by
      show (nth (fairJ es js) _).l = _; rw [hjn _ hq, if_pos rfl, hsl]; rfl), h.sum]
    omega
theorem Bld.ok {ws ls : Nat → Int} {n : Nat} {es : List En} {js : List Jb} (h : Bld ws ls n es js) (hw : ∀ k, k < n → 1 ≤ ws k ∧ ws k ≤ 16) : Ok es js := by
  refine ⟨fun e he => ?_, pair_of_ids fun k hk => (h.at_ k (by rw [← h.len]; exact hk)).1⟩
  obtain ⟨k, hk, rfl⟩ := List.getElem_of_mem he
  have hk' : k < n := by rw [← h.len]; exact hk
  obtain ⟨h1, h2, _, h3, _⟩ := h.at_ k hk'
  have h4 := hw k hk'
  rw [← nth_eq hk]
  have hq : (nth es k).q = k := by unfold En.q; omega
  refine ⟨by omega, by rw [h.lenj]; omega, by rw [hq, h3], by omega, by omega⟩
theorem Bld.q {ws ls : Nat → Int} {n : Nat} {es : List En} {js : List Jb} (h : Bld ws ls n es js) {k : Nat} (hk : k < n) : (nth es k).q = k := by
  have := (h.at_ k hk).1
  unfold En.q; omega
theorem Bld.es {ws ls : Nat → Int} {n T : Nat} {es : List En} {js : List Jb} (h : Bld ws ls n es js) (hw : ∀ k, k < n → 1 ≤ ws k ∧ ws k ≤ 16) (hl : ∀ k, k < n → 1 ≤ ls k ∧ ls k ≤ 20) (hT : sumF ls n = (T : Int)) : ES n T 0 es js := by
  refine ⟨h.ok hw, by rw [h.len]; exact Nat.le_refl _, h.lenj, fun k hk => ?_, fun q hq => ?_, fun i hi => ?_, fun q hq _ => ?_, ?_⟩
  · rw [h.len] at hk
    have a := h.at_ k hk
    have := hw k hk
    omega
  · have a := h.at_ q hq
    have := hl q hq
    omega
  · rw [h.len] at hi
    rw [h.q hi]
    have a := h.at_ i hi
    have := hl i hi
    omega
  · exact ⟨q, by rw [h.len]; exact hq, h.q hq⟩
  · rw [sumF_congr (g := ls) fun k hk => (h.at_ k hk).2.2.2.2.1, hT]; simp
end Go.Proofs.Ytbofagfilohhfaa
