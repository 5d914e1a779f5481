/- The walks of the field's functions over lists of bytes: Fused, of the program and of the reference, and Same. No condition. -/
import Derived.Test.YtpbfkdfhfgeidaaMem
import Derived.Test.YtpbfkdfhfgeidaaGfWalk2
namespace Go.Proofs.Ytpbfkdfhfgeidaa
open Go.RowKit

theorem elB : Elem Try.prog 28 5 (.int .u8 0) 1 1 := ⟨Try.underlying28, by kernel_rfl, rfl, by omega⟩
abbrev bvs (l : List G) : List Value := l.map bv
def gfused : List G → List G → G → List G
  | d :: dst, s :: src, c => (d + c * s) :: gfused dst src c
  | _, _, _ => []
theorem gfused_length : ∀ (dst src : List G) (c : G), dst.length = src.length → (gfused dst src c).length = dst.length
  | [], [], _, _ => rfl
  | [], _ :: _, _, h => by cases h
  | _ :: _, [], _, h => by cases h
  | d :: dst, s :: src, c, h => by simp [gfused, gfused_length dst src c (by simpa using h)]
theorem gfused_get : ∀ (dst src : List G) (c : G) (k : Nat) (h1 : k < dst.length) (h2 : k < src.length), (gfused dst src c)[k]? = some (dst[k] + c * src[k])
  | d :: dst, s :: src, c, 0, _, _ => rfl
  | d :: dst, s :: src, c, k + 1, h1, h2 => by simpa [gfused] using gfused_get dst src c k (by simpa using h1) (by simpa using h2)
theorem fol : Try.prog.follows .mixedOrders = true := by kernel_rfl

set_option maxHeartbeats 1000000 in
theorem fused_any (v1 v2 : Value) (dst src : List G) (c : G) (w : World) (hlen : dst.length = src.length) (hsz : dst.length ≤ 1000000) (h1 : Sl w 1 v1 dst.length (bvs dst)) (h2 : Sl w 1 v2 src.length (bvs src)) :
    Calls Try.prog 15 #[v1, v2, bv c] w fun e w' => ∃ v, e = .returned (.tuple #[v, iv 0]) ∧
      w'.ownsRow w.heap.size 5 1 v dst.length (bvs (gfused dst src c)) ∧ Below w.heap.size w w' := by
  obtain ⟨A1, c1, rfl, hc1, hm1, h1⟩ := h1.open_
  obtain ⟨A2, c2, rfl, hc2, hm2, h2⟩ := h2.open_
  obtain ⟨n, hn⟩ : ∃ n, n = dst.length := ⟨_, rfl⟩
  rw [← hlen, ← hn] at h2
  rw [← hn] at h1
  have ne : ((n : Int) != (n : Int)) = false := by simp
  have H : dst.length = n ∧ src.length = n := ⟨hn.symm, by omega⟩
  rw [← hlen, ← hn]
  clear hlen
  have HN := Lib.hid hn
  have HL := Lib.hid H
  rw [← hn] at hsz
  clear hn H
  go_enter Try.func15, Try.ntmps15
  go_wp2_with (at_make; refine wpList_make elB rfl _ _ rfl _ _ n rfl rfl (by omega) (by unfold maxLen; omega) ?_; intro w1 hown hb1)
  have hb1' := hb1
  have HF : Hid ((bvs (gfused dst src c)).length = n) := by show _ = _; rw [bvs, List.length_map, gfused_length _ _ _ (by rw [HL.out.1, HL.out.2]), HL.out.1]
  go_loopw [20] (fun i wr => ∃ k : Nat, k ≤ n ∧ i = iv k ∧ wr.ownsRow w.heap.size 5 1 (.slice (some ⟨w.heap.size, 0, none⟩) n n) n (fillv (bvs (gfused dst src c)) (.int .u8 0) k) ∧ Below w.heap.size w wr) (fun i _ => n - (intOf i).toNat)
  case atStart => exact ⟨0, by omega, rfl, by rw [fillv_zero, HF.out]; rw [show (Value.int .u8 0).cells = #[Value.int .u8 0] from rfl, made_one] at hown; exact hown, hb1⟩
  case round =>
    obtain ⟨k, hk, rfl, hown1, hbel⟩ := hrel
    clear hown hb1 hb1'
    by_cases hlt : k < n
    · obtain ⟨ad1, u1, rfl, hu1, hl1, hx1⟩ := h1.at_ hlt
      obtain ⟨ad2, u2, rfl, hu2, hl2, hx2⟩ := h2.at_ hlt
      have hd : k < dst.length := by rw [HL.out.1]; exact hlt
      have hs : k < src.length := by rw [HL.out.2]; exact hlt
      obtain rfl : bv dst[k] = u1 := by simpa [bvs, List.getElem?_map, List.getElem?_eq_getElem hd] using hu1
      obtain rfl : bv src[k] = u2 := by simpa [bvs, List.getElem?_map, List.getElem?_eq_getElem hs] using hu2
      have hy1 := (hbel.cell (by rw [addBlock]; exact hl1)).trans hx1
      have hy2 := (hbel.cell (by rw [addBlock]; exact hl2)).trans hx2
      have hy3 := hown1.cellAt k (by omega)
      have hy4 := hown1.frozenAt k
      have hfr := fillv_rest (z := .int .u8 0) (Nat.le_refl k) (by rw [HF.out]; exact hlt)
      rw [hfr] at hy3
      have exor := G.add_val dst[k] (c * src[k])
      clear hx1 hx2 h1 h2 hfr hu1 hu2
      go_wp2_with (fail)
      refine wp_region_still_tail 14 fol (by kernel_rfl) ?_
      simp only [List.take_succ_cons, List.take_zero, List.drop_succ_cons, List.drop_zero]
      repeat (first | still_step | still_call (still_of (mul_any _ _ _)))
      refine wpStill_nil ?_
      change wpList _ _ _ _ _ wr.drew
      go_wp2_with (fail)
      go_roundw
      case rel =>
        have hst := hown1.stored k (.int .u8 ((dst[k] + c * src[k]).val : Int))
        refine ⟨k + 1, by omega, by go_num, ?_, ?_⟩
        · rw [← fillv_set _ _ (.int .u8 ((dst[k] + c * src[k]).val : Int)) (by rw [bvs, List.getElem?_map, gfused_get _ _ _ _ hd hs]; rfl)]
          exact hst.1.drew
        · exact (hbel.setCell (Nat.le_refl _) _).drew
      case measure => simp [intOf]; omega
    · obtain rfl : k = n := by omega
      have hfin := hown1
      rw [show k = (bvs (gfused dst src c)).length from HF.out.symm, fillv_all, HF.out] at hfin
      have HO := Lib.hid hfin
      clear hfin hown1
      go_wp2_with (fail)
      go_ret2
      exact ⟨_, rfl, HO.out, hbel⟩

set_option maxHeartbeats 400000 in
theorem fused_bad (v1 v2 : Value) (n m : Nat) (xs ys : List Value) (c : G) (w : World) (hne : n ≠ m) (h1 : Sl w 1 v1 n xs) (h2 : Sl w 1 v2 m ys) :
    Calls Try.prog 15 #[v1, v2, bv c] w fun e w' => e = .returned (.tuple #[.slice none 0 0, iv 1]) ∧ w = w' := by
  obtain ⟨A1, c1, rfl, hc1, hm1, h1⟩ := h1.open_
  obtain ⟨A2, c2, rfl, hc2, hm2, h2⟩ := h2.open_
  have ne : ((n : Int) != (m : Int)) = true := by rw [bne_iff_ne]; omega
  clear h1 h2 hne
  go_enter Try.func15, Try.ntmps15
  go_wp2
  go_ret2
  exact ⟨rfl, rfl⟩

theorem bvs_append (a b : List G) : bvs (a ++ b) = bvs a ++ bvs b := by simp [bvs]
theorem gfused_take (dst src : List G) (c : G) (k : Nat) (h1 : k < dst.length) (h2 : k < src.length) :
    (gfused dst src c).take (k + 1) = (gfused dst src c).take k ++ [dst[k] + c * src[k]] := by
  have := gfused_get dst src c k h1 h2
  rw [List.take_add_one, this]
  rfl
theorem one_cell_bv (x : G) : ∀ u ∈ [bv x], u.oneCell' = true := by
  intro u hu
  simp at hu
  subst hu
  rfl
set_option maxHeartbeats 1000000 in
theorem rfused_any (v1 v2 : Value) (dst src : List G) (c : G) (w : World) (hlen : dst.length = src.length) (hsz : dst.length ≤ 1000000) (h1 : Sl w 1 v1 dst.length (bvs dst)) (h2 : Sl w 1 v2 src.length (bvs src)) :
    Calls Try.prog 17 #[v1, v2, bv c] w fun e w' => ∃ v, e = .returned v ∧
      w'.ownsRow w.heap.size 5 1 v dst.length (bvs (gfused dst src c)) ∧ Below w.heap.size w w' := by
  obtain ⟨A1, c1, rfl, hc1, hm1, h1⟩ := h1.open_
  obtain ⟨A2, c2, rfl, hc2, hm2, h2⟩ := h2.open_
  obtain ⟨n, hn⟩ : ∃ n, n = dst.length := ⟨_, rfl⟩
  rw [← hlen, ← hn] at h2
  rw [← hn] at h1
  have H : dst.length = n ∧ src.length = n := ⟨hn.symm, by omega⟩
  rw [← hlen, ← hn]
  clear hlen
  have HL := Lib.hid H
  rw [← hn] at hsz
  clear hn H
  have HF : Hid ((gfused dst src c).length = n) := by show _ = _; rw [gfused_length _ _ _ (by rw [HL.out.1, HL.out.2]), HL.out.1]
  go_enter Try.func17, Try.ntmps17
  go_wp2
  go_loopw [7, 8] (fun v i wr => ∃ k : Nat, k ≤ n ∧ i = iv k ∧ wr.ownsRow w.heap.size 5 1 v k (bvs ((gfused dst src c).take k)) ∧ Below w.heap.size w wr) (fun _ i _ => n - (intOf i).toNat)
  case atStart => exact ⟨0, by omega, rfl, World.ownsRow_nil _ _ _ _, Below.refl _ _⟩
  case round =>
    obtain ⟨k, hk, rfl, hown1, hbel⟩ := hrel
    by_cases hlt : k < n
    · obtain ⟨ad1, u1, rfl, hu1, hl1, hx1⟩ := h1.at_ hlt
      obtain ⟨ad2, u2, rfl, hu2, hl2, hx2⟩ := h2.at_ hlt
      have hd : k < dst.length := by rw [HL.out.1]; exact hlt
      have hs : k < src.length := by rw [HL.out.2]; exact hlt
      obtain rfl : bv dst[k] = u1 := by simpa [bvs, List.getElem?_map, List.getElem?_eq_getElem hd] using hu1
      obtain rfl : bv src[k] = u2 := by simpa [bvs, List.getElem?_map, List.getElem?_eq_getElem hs] using hu2
      have hy1 := (hbel.cell (by rw [addBlock]; exact hl1)).trans hx1
      have hy2 := (hbel.cell (by rw [addBlock]; exact hl2)).trans hx2
      have exor := G.add_val dst[k] (c * src[k])
      have HT := Lib.hid (gfused_take dst src c k hd hs)
      clear hx1 hx2 h1 h2 hu1 hu2
      go_wp2_with (fail)
      have hlt2 : ad1.block < wr.heap.size ∧ ad2.block < wr.heap.size := ⟨Nat.lt_of_lt_of_le hl1 hbel.size, Nat.lt_of_lt_of_le hl2 hbel.size⟩
      go_region_held3 (fun W => W.cell? (ad1.add k) = some (bv dst[k]) ∧ W.cell? (ad2.add k) = some (bv src[k]))
        (first | exact ⟨hy1, hy2⟩ | exact ⟨(World.cell?_alloc_lt _ _ _ (by simp [addBlock]; omega)).trans hy1, (World.cell?_alloc_lt _ _ _ (by simp [addBlock]; omega)).trans hy2⟩ | exact ⟨(hb2.cell (by rw [addBlock]; exact hl1)).trans ((World.cell?_alloc_lt _ _ _ (by simp [addBlock]; omega)).trans hy1), (hb2.cell (by rw [addBlock]; exact hl2)).trans ((World.cell?_alloc_lt _ _ _ (by simp [addBlock]; omega)).trans hy2)⟩)
        (first
          | (go_at_call 20; refine (rmul_any _ _ _).mono ?_; rintro e w' ⟨rfl, rfl⟩)
          | (refine step_append elB rfl _ _ rfl w.heap.size _ k _ rfl ((hown1.drew).alloc _) _ 1 _ rfl (Sl.lit _ _ _ 1 1 rfl (by unfold maxLen; omega)) (one_cell_bv _) (by unfold maxLen; omega) (by omega) (by have := hbel.size; simp; omega) ?_; intro v' w2 hown2 _ _ hb2))
      go_wp2_with (fail)
      have hbw2 : Below w.heap.size w w2 := (hbel.drew.alloc hbel.size _).trans hb2
      have hown3 : w2.ownsRow w.heap.size 5 1 v' (k + 1) (bvs ((gfused dst src c).take (k + 1))) := by rw [HT.out, bvs_append]; exact hown2
      clear hown2 hb2 hown1
      go_roundw
      case rel => exact ⟨k + 1, by omega, by go_num, hown3, hbw2⟩
      case measure => simp [intOf]; omega
    · obtain rfl : k = n := by omega
      have hfin := hown1
      rw [List.take_of_length_le (by rw [HF.out]; omega)] at hfin
      have HO := Lib.hid hfin
      clear hfin hown1
      go_wp2_with (fail)
      go_ret
      exact ⟨_, rfl, HO.out, hbel⟩

/-- A list of bytes as a string. -/
def strOf (l : List G) : ByteArray := ⟨(l.map fun x => UInt8.ofNat x.val).toArray⟩
def sameG (a b : List G) : Bool := decide (a = b)
theorem sameG_self (a : List G) : sameG a a = true := decide_eq_true rfl
theorem sameG_of {a b : List G} (h : a = b) : sameG a b = true := decide_eq_true h
theorem sameG_ne {a b : List G} (h : a ≠ b) : sameG a b = false := decide_eq_false h
theorem strOf_inj {a b : List G} (h : strOf a = strOf b) : a = b := by
  unfold strOf at h
  injection h with h
  have h : a.map (fun x => UInt8.ofNat x.val) = b.map (fun x => UInt8.ofNat x.val) := by simpa using h
  have key : ∀ (x y : G), UInt8.ofNat x.val = UInt8.ofNat y.val → x = y := fun x y e => by
    have := congrArg UInt8.toNat e
    simp only [UInt8.toNat_ofNat'] at this
    rw [Nat.mod_eq_of_lt x.lt, Nat.mod_eq_of_lt y.lt] at this
    exact G.eq_of this
  exact (List.map_inj_right key).1 h
theorem str_same (a b : List G) : ((strOf a).toList == (strOf b).toList) = sameG a b := by
  rw [ByteArray.toList_eq, ByteArray.toList_eq]
  unfold sameG
  by_cases h : a = b
  · rw [h, decide_eq_true rfl]; exact beq_self_eq_true _
  · rw [decide_eq_false h, beq_eq_false_iff_ne]
    intro e
    apply h
    apply strOf_inj
    have e' : (strOf a).data = (strOf b).data := Array.toList_inj.1 e
    cases hA : strOf a
    cases hB : strOf b
    rw [hA, hB] at e'
    simp only at e'
    rw [e']
theorem foldl_str : ∀ (l : List G) (s : ByteArray), (l.map fun x => (x.val : Int)).foldl (fun r n => r.push (UInt8.ofNat n.toNat)) s = ⟨s.data ++ (l.map fun x => UInt8.ofNat x.val).toArray⟩
  | [], s => by simp
  | x :: l, s => by
    rw [List.map_cons, List.foldl_cons, foldl_str l]
    simp [ByteArray.push]
theorem run_str {P : Program} (src dst e : TypeId) (hs : P.underlying src = some (.slice e)) (he : P.underlying e = some (.int .u8)) (hd : P.underlying dst = some .string)
    {w : World} {v : Value} {l : List G} (h : Sl w 1 v l.length (bvs l)) : (convert src dst v).run P w = .ok (.string (strOf l)) w := by
  obtain ⟨h0, A, c, rfl, hc, hm, hcell⟩ := h
  rcases A with _ | ad
  · have hl : l = [] := by
      rcases Nat.eq_zero_or_pos l.length with h | h
      · exact List.eq_nil_of_length_eq_zero h
      · obtain ⟨_, h', _⟩ := hcell h
        cases h'
    subst hl
    rw [run_convert_bytes_nil w src e hs he _ _ dst hd]
    rfl
  · rw [run_convert_bytes_string w src dst e _ _ _ hs he hd, run_bytesToString w ad l.length c (l.map fun x => (x.val : Int))]
    · rw [foldl_str, show ByteArray.empty.data = #[] from rfl, Array.empty_append]
      rfl
    · have hcs : ∀ j u, (bvs l)[j]? = some u → w.cell? (ad.add j) = some u := by
        intro j u hu
        rcases Nat.eq_zero_or_pos l.length with h | h
        · rw [List.eq_nil_of_length_eq_zero h] at hu; simp [bvs] at hu
        · obtain ⟨ad', h', _, hcl⟩ := hcell h
          injection h' with h'
          subst h'
          exact hcl j u hu
      have hl := run_loadCells_list (P := P) w ad (bvs l) hcs
      rw [bvs, List.length_map] at hl
      rw [hl, List.map_map]
      rfl
set_option maxHeartbeats 400000 in
theorem same_any (v1 v2 : Value) (a b : List G) (w : World) (h1 : Sl w 1 v1 a.length (bvs a)) (h2 : Sl w 1 v2 b.length (bvs b)) :
    Calls Try.prog 16 #[v1, v2] w fun e w' => e = .returned (.bool (sameG a b)) ∧ w = w' := by
  have e1 := run_str 28 9 5 Try.underlying28 Try.underlying5 Try.underlying9 h1
  have e2 := run_str 28 9 5 Try.underlying28 Try.underlying5 Try.underlying9 h2
  have e3 := str_same a b
  clear h1 h2
  go_enter Try.func16, Try.ntmps16
  go_wp2
  go_ret
  exact ⟨rfl, rfl⟩
end Go.Proofs.Ytpbfkdfhfgeidaa
