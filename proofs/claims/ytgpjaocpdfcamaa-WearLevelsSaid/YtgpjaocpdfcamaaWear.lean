/- The walks of the wear functions, of the program and of the reference, and of Reset. Bands as four lists of numbers. No condition. -/
import Derived.Test.YtgpjaocpdfcamaaMem
import Derived.Test.YtgpjaocpdfcamaaProg
namespace Go.Proofs.Ytgpjaocpdfcamaa
open Go.RowKit
attribute [local go_sem] cell_setCell_self isSome_setCell

abbrev iv (x : Int) : Value := .int .i64 x
abbrev uv (x : Int) : Value := .int .u64 x
theorem fol : Try.prog.follows .mixedOrders = true := by kernel_rfl
/-- A band: used, live, age, wear. -/
structure Band where
  used : Int
  live : Int
  age : Int
  wear : Int
def Band.cells (b : Band) : List Value := [iv b.used, iv b.live, uv b.age, uv b.wear]
def bcs (l : List Band) : List Value := l.flatMap Band.cells
theorem bcs_length (l : List Band) : (bcs l).length = l.length * 4 := by
  induction l with
  | nil => rfl
  | cons b l ih => simp [bcs, Band.cells] at *; omega
theorem bcs_get (l : List Band) (k j : Nat) (hk : k < l.length) (hj : j < 4) : (bcs l)[k * 4 + j]? = (l[k].cells)[j]? := by
  induction l generalizing k with
  | nil => simp at hk
  | cons b l ih =>
    have e : bcs (b :: l) = b.cells ++ bcs l := rfl
    have hl : b.cells.length = 4 := rfl
    rw [e]
    cases k with
    | zero => rw [List.getElem?_append_left (by omega)]; simp
    | succ k =>
      rw [List.getElem?_append_right (by omega), show (k + 1) * 4 + j - b.cells.length = k * 4 + j from by omega]
      exact ih k (by simpa using hk)
/-- Numbers in range. -/
def Band.ok (b : Band) : Prop := 0 ≤ b.wear ∧ b.wear ≤ 18446744073709551615
/-- v is a list of bands. -/
def Bands (w : World) (v : Value) (l : List Band) : Prop := Sl w 4 v l.length (bcs l) ∧ ∀ b ∈ l, b.ok
theorem Bands.below {w w' : World} {v : Value} {l : List Band} (h : Bands w v l) (hb : Below w.heap.size w w') : Bands w' v l := ⟨h.1.below hb, h.2⟩
theorem Sl.at4 {w : World} {l : List Band} {A : Option Addr} {m c k : Nat} (h : Sl w 4 (.slice A m c) l.length (bcs l)) (hk : k < l.length) :
    ∃ ad, A = some ad ∧ ad.block < w.heap.size ∧ w.cell? (ad.add (k * 4)) = some (iv l[k].used) ∧ w.cell? ⟨(ad.add (k * 4)).block, (ad.add (k * 4)).off + 1, none⟩ = some (iv l[k].live) ∧
      w.cell? ⟨(ad.add (k * 4)).block, (ad.add (k * 4)).off + 2, none⟩ = some (uv l[k].age) ∧ w.cell? ⟨(ad.add (k * 4)).block, (ad.add (k * 4)).off + 3, none⟩ = some (uv l[k].wear) := by
  obtain ⟨h1, A', c', h2, h3, h4, h5⟩ := h
  obtain ⟨ad, rfl, hl, hc⟩ := h5 (by omega)
  injection h2 with e1 e2 e3
  refine ⟨ad, e1, hl, ?_, ?_, ?_, ?_⟩
  · exact hc _ _ (by have := bcs_get l k 0 hk (by omega); simpa [Band.cells] using this)
  · show w.cell? ((ad.add (k * 4)).add 1) = _; rw [addAdd]; exact hc _ _ (by rw [bcs_get l k 1 hk (by omega)]; rfl)
  · show w.cell? ((ad.add (k * 4)).add 2) = _; rw [addAdd]; exact hc _ _ (by rw [bcs_get l k 2 hk (by omega)]; rfl)
  · show w.cell? ((ad.add (k * 4)).add 3) = _; rw [addAdd]; exact hc _ _ (by rw [bcs_get l k 3 hk (by omega)]; rfl)

/-- The best of the first k bands, or -1. -/
def best (l : List Band) : Nat → Int
  | 0 => -1
  | k + 1 => match l[k]? with
    | none => best l k
    | some b => if b.used = 0 ∧ (best l k < 0 ∨ ∀ c, l[(best l k).toNat]? = some c → b.wear < c.wear) then (k : Int) else best l k
theorem best_lt (l : List Band) : ∀ k, -1 ≤ best l k ∧ best l k < k
  | 0 => by simp [best]
  | k + 1 => by
    have := best_lt l k
    unfold best
    split
    · omega
    · split <;> omega
/-- What Least returns. -/
def leastV (l : List Band) : Value := .tuple (if best l l.length < 0 then #[iv 0, iv 9] else #[iv (best l l.length), iv 0])
set_option maxHeartbeats 2000000 in
theorem least_any (v : Value) (l : List Band) (w : World) (hv : Bands w v l) (hn : l.length ≤ 1000000) :
    Calls Try.prog 9 #[v] w fun e w' => e = .returned (leastV l) ∧ Below w.heap.size w w' := by
  obtain ⟨hs, hok⟩ := hv
  obtain ⟨A, c, rfl, hc, hm, hs⟩ := hs.open_
  obtain ⟨n, hn'⟩ : ∃ n, n = l.length := ⟨_, rfl⟩
  have HN := Lib.hid hn'
  rw [← hn'] at hn hs
  have hs' : Sl w 4 (.slice A n c) l.length (bcs l) := by rw [← hn']; exact hs
  rw [← hn']
  clear hn' hs
  go_enter Try.func9, Try.ntmps9
  go_wp2
  go_loopw [4, 9] (fun b1 i1 wr => ∃ k : Nat, k ≤ n ∧ i1 = iv k ∧ b1 = iv (best l k) ∧ Below w.heap.size w wr) (fun _ i1 _ => n - (intOf i1).toNat)
  case atStart => exact ⟨0, Nat.zero_le _, rfl, rfl, Below.refl _ _⟩
  case round =>
    obtain ⟨k, hk, rfl, rfl, hbel⟩ := hrel
    have hb := best_lt l k
    by_cases hlt : k < n
    · have hkl : k < l.length := by rw [← HN.out]; exact hlt
      obtain ⟨ad, rfl, hl, e0, e1, e2, e3⟩ := hs'.at4 hkl
      have g0 := kept_cell hbel e0
      have g1 := kept_cell hbel e1
      have g2 := kept_cell hbel e2
      have g3 := kept_cell hbel e3
      have hsz := hbel.size
      clear e0 e1 e2 e3
      by_cases hu : l[k].used = 0
      · have hd : (l[k].used == 0) = true := beq_iff_eq.2 hu
        by_cases hneg : best l k < 0
        · have HB : Hid (best l (k + 1) = k) := by show _ = _; rw [best, List.getElem?_eq_getElem hkl]; simp [hu, hneg]
          have d1 : decide (best l k < 0) = true := decide_eq_true hneg
          clear hu
          go_wp2
          go_quiet (fail)
          go_wp2
          go_roundw
          case rel => exact ⟨k + 1, by omega, by go_num, by rw [HB.out], below_drewN (hbel.alloc hsz _) _⟩
          case measure => simp [intOf]; omega
        · obtain ⟨j, hj⟩ : ∃ j : Nat, best l k = j := ⟨(best l k).toNat, by omega⟩
          have hjl : j < l.length := by omega
          obtain ⟨ad', ead, hl', e0, e1, e2, e3⟩ := hs'.at4 hjl
          injection ead with ead
          subst ead
          have g7 := kept_cell (below_alloc wr (.cells #[iv l[k].used, iv l[k].live, uv l[k].age, uv l[k].wear] 32)) (kept_cell hbel e3)
          have HK : Hid (best l (k + 1) = if l[k].wear < l[j].wear then (k : Int) else best l k) := by
            show _ = _
            rw [best, List.getElem?_eq_getElem hkl]
            simp only [hu, hj, Int.toNat_natCast, List.getElem?_eq_getElem hjl, true_and]
            simp
            split <;> simp_all <;> omega
          rw [hj] at HK
          clear e0 e1 e2 e3
          have d1 : decide ((j : Int) < 0) = false := by simp
          have hjn : j < n := by rw [HN.out]; exact hjl
          rw [hj]
          by_cases hw : l[k].wear < l[j].wear
          · have d2 : decide (l[k].wear < l[j].wear) = true := decide_eq_true hw
            have HB : Hid (best l (k + 1) = k) := by show _ = _; rw [HK.out, if_pos hw]
            clear hu hj hneg hb
            go_wp2
            go_quiet (fail)
            go_wp2
            go_roundw
            case rel => exact ⟨k + 1, by omega, by go_num, by rw [HB.out], below_drewN (hbel.alloc hsz _) _⟩
            case measure => simp [intOf]; omega
          · have d2 : decide (l[k].wear < l[j].wear) = false := decide_eq_false hw
            have HB : Hid (best l (k + 1) = j) := by show _ = _; rw [HK.out, if_neg hw]
            clear hu hj hneg hb
            go_wp2
            go_quiet (fail)
            go_wp2
            go_roundw
            case rel => exact ⟨k + 1, by omega, by go_num, by rw [HB.out], below_drewN (hbel.alloc hsz _) _⟩
            case measure => simp [intOf]; omega
      · have hd : (l[k].used == 0) = false := beq_eq_false_iff_ne.2 hu
        have HB : Hid (best l (k + 1) = best l k) := by show _ = _; rw [best, List.getElem?_eq_getElem hkl]; simp [hu]
        clear hu
        go_wp2
        go_quiet (fail)
        go_wp2
        go_roundw
        case rel => exact ⟨k + 1, by omega, by go_num, by rw [HB.out], below_drewN (hbel.alloc hsz _) _⟩
        case measure => simp [intOf]; omega
    · obtain rfl : k = n := by omega
      have hb := best_lt l k
      by_cases hneg : best l k < 0
      · have HV : Hid (leastV l = .tuple #[iv 0, iv 9]) := by show _ = _; rw [leastV, ← HN.out, if_pos hneg]
        go_wp2
        go_ret2
        exact ⟨by rw [HV.out]; rfl, hbel⟩
      · have HV : Hid (leastV l = .tuple #[iv (best l k), iv 0]) := by show _ = _; rw [leastV, ← HN.out, if_neg hneg]
        go_wp2
        go_ret2
        exact ⟨by rw [HV.out]; rfl, hbel⟩
end Go.Proofs.Ytgpjaocpdfcamaa
