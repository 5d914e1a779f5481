/- The walks of the reference's Least, and of Spread and Total of both. No condition. -/
import Derived.Test.YtgpjaocpdfcamaaWear
namespace Go.Proofs.Ytgpjaocpdfcamaa
open Go.RowKit
attribute [local go_sem] cell_setCell_self isSome_setCell

def wearAt (l : List Band) (k : Nat) : Int := match l[k]? with | some b => b.wear | none => 0
theorem wearAt_eq {l : List Band} {k : Nat} (h : k < l.length) : wearAt l k = l[k].wear := by rw [wearAt, List.getElem?_eq_getElem h]
def lo (l : List Band) : Nat → Int
  | 0 => wearAt l 0
  | k + 1 => if wearAt l k < lo l k then wearAt l k else lo l k
def hi (l : List Band) : Nat → Int
  | 0 => wearAt l 0
  | k + 1 => if hi l k < wearAt l k then wearAt l k else hi l k
def spreadN (l : List Band) : Int := if l.length = 0 then 0 else hi l l.length - lo l l.length
def totalTo (l : List Band) : Nat → Int
  | 0 => 0
  | k + 1 => IntKind.u64.wrap (totalTo l k + wearAt l k)
theorem wearAt_ok {l : List Band} (h : ∀ b ∈ l, b.ok) (k : Nat) : 0 ≤ wearAt l k ∧ wearAt l k ≤ 18446744073709551615 := by
  unfold wearAt
  split
  · rename_i b hb
    exact h b (List.mem_of_getElem? hb)
  · omega
theorem lo_hi {l : List Band} (h : ∀ b ∈ l, b.ok) : ∀ k, 0 ≤ lo l k ∧ lo l k ≤ hi l k ∧ hi l k ≤ 18446744073709551615
  | 0 => by have := wearAt_ok h 0; unfold lo hi; omega
  | k + 1 => by
    have := lo_hi h k
    have := wearAt_ok h k
    unfold lo hi
    split <;> split <;> omega

set_option maxHeartbeats 2000000 in
theorem rspread_any (v : Value) (l : List Band) (w : World) (hv : Bands w v l) (hn : l.length ≤ 1000000) :
    Calls Try.prog 12 #[v] w fun e w' => e = .returned (uv (spreadN l)) ∧ Below w.heap.size w w' := by
  obtain ⟨hs, hok⟩ := hv
  have HLH := Lib.hid (lo_hi hok)
  obtain ⟨A, c, rfl, hc, hm, hs⟩ := hs.open_
  obtain ⟨n, hn'⟩ : ∃ n, n = l.length := ⟨_, rfl⟩
  have HN := Lib.hid hn'
  rw [← hn'] at hn hs
  have hs' : Sl w 4 (.slice A n c) l.length (bcs l) := by rw [← hn']; exact hs
  rw [← hn']
  clear hn' hs hok
  by_cases h0 : n = 0
  · subst h0
    have HV : Hid (spreadN l = 0) := by show _ = _; rw [spreadN, ← HN.out, if_pos rfl]
    go_enter Try.func12, Try.ntmps12
    go_wp2
    go_ret
    exact ⟨by rw [HV.out]; rfl, Below.refl _ _⟩
  · have hkl : 0 < l.length := by rw [← HN.out]; omega
    have HV : Hid (spreadN l = hi l n - lo l n) := by show _ = _; rw [spreadN, ← HN.out, if_neg h0]
    obtain ⟨ad, rfl, hl, e0, e1, e2, e3⟩ := hs'.at4 hkl
    have en : ((n : Int) == 0) = false := beq_eq_false_iff_ne.2 (by omega)
    have hpos : (0 : Int) < n := by omega
    rw [← wearAt_eq hkl] at e3
    have e4 : w.cell? ⟨ad.block, ad.off + 3, none⟩ = some (uv (wearAt l 0)) := by rw [Nat.zero_mul] at e3; exact e3
    have hposn : 0 < n := by omega
    clear e0 e1 e2 e3
    go_enter Try.func12, Try.ntmps12
    go_wp2
    go_quiet (fail)
    go_wp2
    clear e4
    go_loopw [3, 4, 5] (fun l1 h1 i1 wr => ∃ k : Nat, k ≤ n ∧ i1 = iv k ∧ l1 = uv (lo l k) ∧ h1 = uv (hi l k) ∧ Below w.heap.size w wr) (fun _ _ i1 _ => n - (intOf i1).toNat)
    case atStart => exact ⟨0, Nat.zero_le _, rfl, rfl, rfl, below_drewN (Below.refl _ _) _⟩
    case round =>
      obtain ⟨k, hk, rfl, rfl, rfl, hbel⟩ := hrel
      have hlh := HLH.out k
      by_cases hlt : k < n
      · have hkl : k < l.length := by rw [← HN.out]; exact hlt
        obtain ⟨ad', ead, hl', e0, e1, e2, e3⟩ := hs'.at4 hkl
        injection ead with ead
        subst ead
        have g3 := kept_cell hbel e3
        rw [← wearAt_eq hkl] at g3
        clear e0 e1 e2 e3
        go_wp2
        go_quiet (fail)
        go_wp2
        go_roundw
        case rel => exact ⟨k + 1, by omega, by go_num, rfl, rfl, below_drewN hbel _⟩
        case measure => simp [intOf]; omega
      · obtain rfl : k = n := by omega
        go_wp2
        go_ret
        exact ⟨by rw [HV.out]; rfl, hbel⟩
set_option maxHeartbeats 2000000 in
theorem spread_any (v : Value) (l : List Band) (w : World) (hv : Bands w v l) (hn : l.length ≤ 1000000) :
    Calls Try.prog 11 #[v] w fun e w' => e = .returned (uv (spreadN l)) ∧ Below w.heap.size w w' := by
  obtain ⟨hs, hok⟩ := hv
  have HLH := Lib.hid (lo_hi hok)
  obtain ⟨A, c, rfl, hc, hm, hs⟩ := hs.open_
  obtain ⟨n, hn'⟩ : ∃ n, n = l.length := ⟨_, rfl⟩
  have HN := Lib.hid hn'
  rw [← hn'] at hn hs
  have hs' : Sl w 4 (.slice A n c) l.length (bcs l) := by rw [← hn']; exact hs
  rw [← hn']
  clear hn' hs hok
  by_cases h0 : n = 0
  · subst h0
    have HV : Hid (spreadN l = 0) := by show _ = _; rw [spreadN, ← HN.out, if_pos rfl]
    go_enter Try.func11, Try.ntmps11
    go_wp2
    go_ret
    exact ⟨by rw [HV.out]; rfl, Below.refl _ _⟩
  · have hkl : 0 < l.length := by rw [← HN.out]; omega
    have HV : Hid (spreadN l = hi l n - lo l n) := by show _ = _; rw [spreadN, ← HN.out, if_neg h0]
    obtain ⟨ad, rfl, hl, e0, e1, e2, e3⟩ := hs'.at4 hkl
    have en : ((n : Int) == 0) = false := beq_eq_false_iff_ne.2 (by omega)
    have hpos : (0 : Int) < n := by omega
    rw [← wearAt_eq hkl] at e3
    have e4 : w.cell? ⟨ad.block, ad.off + 3, none⟩ = some (uv (wearAt l 0)) := by rw [Nat.zero_mul] at e3; exact e3
    have hposn : 0 < n := by omega
    clear e0 e1 e2 e3
    go_enter Try.func11, Try.ntmps11
    go_wp2
    go_quiet (fail)
    go_wp2
    clear e4
    go_loopw [3, 4, 20] (fun l1 h1 i1 wr => ∃ k : Nat, k ≤ n ∧ i1 = iv k ∧ l1 = uv (lo l k) ∧ h1 = uv (hi l k) ∧ Below w.heap.size w wr) (fun _ _ i1 _ => n - (intOf i1).toNat)
    case atStart => exact ⟨0, Nat.zero_le _, rfl, rfl, rfl, below_drewN (Below.refl _ _) _⟩
    case round =>
      obtain ⟨k, hk, rfl, rfl, rfl, hbel⟩ := hrel
      have hlh := HLH.out k
      by_cases hlt : k < n
      · have hkl : k < l.length := by rw [← HN.out]; exact hlt
        obtain ⟨ad', ead, hl', e0, e1, e2, e3⟩ := hs'.at4 hkl
        injection ead with ead
        subst ead
        have g0 := kept_cell hbel e0
        have g1 := kept_cell hbel e1
        have g2 := kept_cell hbel e2
        have g3 := kept_cell hbel e3
        rw [← wearAt_eq hkl] at g3
        have hsz := hbel.size
        clear e0 e1 e2 e3
        go_wp2
        go_quiet (fail)
        go_wp2
        go_roundw
        case rel => exact ⟨k + 1, by omega, by go_num, rfl, rfl, below_drewN (hbel.alloc hsz _) _⟩
        case measure => simp [intOf]; omega
      · obtain rfl : k = n := by omega
        go_wp2
        go_ret
        exact ⟨by rw [HV.out]; rfl, hbel⟩
set_option maxHeartbeats 2000000 in
theorem total_any (v : Value) (l : List Band) (w : World) (hv : Bands w v l) (hn : l.length ≤ 1000000) :
    Calls Try.prog 13 #[v] w fun e w' => e = .returned (uv (totalTo l l.length)) ∧ Below w.heap.size w w' := by
  obtain ⟨hs, hok⟩ := hv
  obtain ⟨A, c, rfl, hc, hm, hs⟩ := hs.open_
  obtain ⟨n, hn'⟩ : ∃ n, n = l.length := ⟨_, rfl⟩
  have HN := Lib.hid hn'
  rw [← hn'] at hn hs
  have hs' : Sl w 4 (.slice A n c) l.length (bcs l) := by rw [← hn']; exact hs
  rw [← hn']
  clear hn' hs hok
  go_enter Try.func13, Try.ntmps13
  go_wp2
  go_loopw [3, 8] (fun t1 i1 wr => ∃ k : Nat, k ≤ n ∧ i1 = iv k ∧ t1 = uv (totalTo l k) ∧ Below w.heap.size w wr) (fun _ i1 _ => n - (intOf i1).toNat)
  case atStart => exact ⟨0, Nat.zero_le _, rfl, rfl, Below.refl _ _⟩
  case round =>
    obtain ⟨k, hk, rfl, rfl, hbel⟩ := hrel
    by_cases hlt : k < n
    · have hkl : k < l.length := by rw [← HN.out]; exact hlt
      obtain ⟨ad, rfl, hl', e0, e1, e2, e3⟩ := hs'.at4 hkl
      have g0 := kept_cell hbel e0
      have g1 := kept_cell hbel e1
      have g2 := kept_cell hbel e2
      have g3 := kept_cell hbel e3
      rw [← wearAt_eq hkl] at g3
      have hsz := hbel.size
      clear e0 e1 e2 e3
      go_wp2
      go_roundw
      case rel => exact ⟨k + 1, by omega, by go_num, rfl, hbel.alloc hsz _⟩
      case measure => simp [intOf]; omega
    · obtain rfl : k = n := by omega
      go_wp2
      go_ret
      exact ⟨rfl, hbel⟩
set_option maxHeartbeats 2000000 in
theorem rtotal_any (v : Value) (l : List Band) (w : World) (hv : Bands w v l) (hn : l.length ≤ 1000000) :
    Calls Try.prog 14 #[v] w fun e w' => e = .returned (uv (totalTo l l.length)) ∧ w = w' := by
  obtain ⟨hs, hok⟩ := hv
  obtain ⟨A, c, rfl, hc, hm, hs⟩ := hs.open_
  obtain ⟨n, hn'⟩ : ∃ n, n = l.length := ⟨_, rfl⟩
  have HN := Lib.hid hn'
  rw [← hn'] at hn hs
  have hs' : Sl w 4 (.slice A n c) l.length (bcs l) := by rw [← hn']; exact hs
  rw [← hn']
  clear hn' hs hok
  go_enter Try.func14, Try.ntmps14
  go_wp2
  go_loop [3, 4] (fun t1 i1 => ∃ k : Nat, k ≤ n ∧ i1 = iv k ∧ t1 = uv (totalTo l k)) (fun _ i1 => n - (intOf i1).toNat)
  case atStart => exact ⟨0, Nat.zero_le _, rfl, rfl⟩
  case round =>
    obtain ⟨k, hk, rfl, rfl⟩ := hrel
    by_cases hlt : k < n
    · have hkl : k < l.length := by rw [← HN.out]; exact hlt
      obtain ⟨ad, rfl, hl', e0, e1, e2, e3⟩ := hs'.at4 hkl
      rw [← wearAt_eq hkl] at e3
      clear e0 e1 e2
      go_wp2
      go_round
      case rel => exact ⟨k + 1, by omega, by go_num, rfl⟩
      case measure => simp [intOf]; omega
    · obtain rfl : k = n := by omega
      go_wp2
      go_ret
      exact ⟨rfl, rfl⟩
set_option maxHeartbeats 2000000 in
theorem rleast_any (v : Value) (l : List Band) (w : World) (hv : Bands w v l) (hn : l.length ≤ 1000000) :
    Calls Try.prog 10 #[v] w fun e w' => e = .returned (leastV l) ∧ Below w.heap.size w w' := by
  obtain ⟨hs, hok⟩ := hv
  obtain ⟨A, c, rfl, hc, hm, hs⟩ := hs.open_
  obtain ⟨n, hn'⟩ : ∃ n, n = l.length := ⟨_, rfl⟩
  have HN := Lib.hid hn'
  rw [← hn'] at hn hs
  have hs' : Sl w 4 (.slice A n c) l.length (bcs l) := by rw [← hn']; exact hs
  rw [← hn']
  clear hn' hs
  go_enter Try.func10, Try.ntmps10
  go_wp2
  go_loopw [4, 5] (fun b1 i1 wr => ∃ k : Nat, k ≤ n ∧ i1 = iv k ∧ b1 = iv (best l k) ∧ Below w.heap.size w wr) (fun _ i1 _ => n - (intOf i1).toNat)
  case atStart => exact ⟨0, Nat.zero_le _, rfl, rfl, Below.refl _ _⟩
  case round =>
    obtain ⟨k, hk, rfl, rfl, hbel⟩ := hrel
    have hb := best_lt l k
    by_cases hlt : k < n
    · have hkl : k < l.length := by rw [← HN.out]; exact hlt
      obtain ⟨ad, rfl, hl, e0, e1, e2, e3⟩ := hs'.at4 hkl
      have g0 := kept_cell hbel e0
      have g3 := kept_cell hbel e3
      clear e0 e1 e2 e3
      by_cases hu : l[k].used = 0
      · have hd : (l[k].used == 0) = true := beq_iff_eq.2 hu
        by_cases hneg : best l k < 0
        · have HB : Hid (best l (k + 1) = k) := by show _ = _; rw [best, List.getElem?_eq_getElem hkl]; simp [hu, hneg]
          have d1 : decide (best l k < 0) = true := decide_eq_true hneg
          clear hu
          go_wp2
          go_quiet (fail)
          go_wp2
          go_roundw
          case rel => exact ⟨k + 1, by omega, by go_num, by rw [HB.out], below_drewN hbel _⟩
          case measure => simp [intOf]; omega
        · obtain ⟨j, hj⟩ : ∃ j : Nat, best l k = j := ⟨(best l k).toNat, by omega⟩
          have hjl : j < l.length := by omega
          obtain ⟨ad', ead, hl', e0, e1, e2, e3⟩ := hs'.at4 hjl
          injection ead with ead
          subst ead
          have g7 := kept_cell hbel e3
          have HK : Hid (best l (k + 1) = if l[k].wear < l[j].wear then (k : Int) else best l k) := by
            show _ = _
            rw [best, List.getElem?_eq_getElem hkl]
            simp only [hu, hj, Int.toNat_natCast, List.getElem?_eq_getElem hjl, true_and]
            simp
            split <;> simp_all <;> omega
          rw [hj] at HK
          clear e0 e1 e2 e3
          have d1 : decide ((j : Int) < 0) = false := by simp
          have hjn : j < n := by rw [HN.out]; exact hjl
          rw [hj]
          by_cases hw : l[k].wear < l[j].wear
          · have d2 : decide (l[k].wear < l[j].wear) = true := decide_eq_true hw
            have HB : Hid (best l (k + 1) = k) := by show _ = _; rw [HK.out, if_pos hw]
            clear hu hj hneg hb
            go_wp2
            go_quiet (fail)
            go_wp2
            go_roundw
            case rel => exact ⟨k + 1, by omega, by go_num, by rw [HB.out], below_drewN hbel _⟩
            case measure => simp [intOf]; omega
          · have d2 : decide (l[k].wear < l[j].wear) = false := decide_eq_false hw
            have HB : Hid (best l (k + 1) = j) := by show _ = _; rw [HK.out, if_neg hw]
            clear hu hj hneg hb
            go_wp2
            go_quiet (fail)
            go_wp2
            go_roundw
            case rel => exact ⟨k + 1, by omega, by go_num, by rw [HB.out], below_drewN hbel _⟩
            case measure => simp [intOf]; omega
      · have hd : (l[k].used == 0) = false := beq_eq_false_iff_ne.2 hu
        have HB : Hid (best l (k + 1) = best l k) := by show _ = _; rw [best, List.getElem?_eq_getElem hkl]; simp [hu]
        clear hu
        go_wp2
        go_quiet (fail)
        go_wp2
        go_roundw
        case rel => exact ⟨k + 1, by omega, by go_num, by rw [HB.out], below_drewN hbel _⟩
        case measure => simp [intOf]; omega
    · obtain rfl : k = n := by omega
      have hb := best_lt l k
      by_cases hneg : best l k < 0
      · have HV : Hid (leastV l = .tuple #[iv 0, iv 9]) := by show _ = _; rw [leastV, ← HN.out, if_pos hneg]
        go_wp2
        go_ret2
        exact ⟨by rw [HV.out]; rfl, hbel⟩
      · have HV : Hid (leastV l = .tuple #[iv (best l k), iv 0]) := by show _ = _; rw [leastV, ← HN.out, if_neg hneg]
        go_wp2
        go_ret2
        exact ⟨by rw [HV.out]; rfl, hbel⟩
end Go.Proofs.Ytgpjaocpdfcamaa
