/- Words for lists of elements. No condition. -/
import Derived.Test.YtlkemgefioiffaaMem
import Derived.Test.YtlkemgefioiffaaGa
namespace Go.Proofs.Ytlkemgefioiffaa
open Go.RowKit
theorem elB : Elem Try.prog 28 5 (.int .u8 0) 1 1 := ⟨Try.underlying28, by kernel_rfl, rfl, by omega⟩
abbrev bvs (l : List G) : List Value := l.map bv
def gfused : List G → List G → G → List G
  | d :: dst, s :: src, c => (d + c * s) :: gfused dst src c
  | _, _, _ => []
theorem gfused_length : ∀ (dst src : List G) (c : G), dst.length = src.length → (gfused dst src c).length = dst.length
  | [], [], _, _ => rfl
  | [], _ :: _, _, h => by cases h
  | _ :: _, [], _, h => by cases h
  | d :: dst, s :: src, c, h => by simp [gfused, gfused_length dst src c (by simpa using h)]
theorem gfused_get : ∀ (dst src : List G) (c : G) (k : Nat) (h1 : k < dst.length) (h2 : k < src.length), (gfused dst src c)[k]? = some (dst[k] + c * src[k])
  | d :: dst, s :: src, c, 0, _, _ => rfl
  | d :: dst, s :: src, c, k + 1, h1, h2 => by simpa [gfused] using gfused_get dst src c k (by simpa using h1) (by simpa using h2)
theorem fol : Try.prog.follows .mixedOrders = true := by kernel_rfl
theorem bvs_append (a b : List G) : bvs (a ++ b) = bvs a ++ bvs b := by simp [bvs]
theorem gfused_take (dst src : List G) (c : G) (k : Nat) (h1 : k < dst.length) (h2 : k < src.length) :
    (gfused dst src c).take (k + 1) = (gfused dst src c).take k ++ [dst[k] + c * src[k]] := by
  have := gfused_get dst src c k h1 h2
  rw [List.take_add_one, this]
  rfl
theorem one_cell_bv (x : G) : ∀ u ∈ [bv x], u.oneCell' = true := by
  intro u hu
  simp at hu
  subst hu
  rfl
/-- A list of bytes as a string. -/
def strOf (l : List G) : ByteArray := ⟨(l.map fun x => UInt8.ofNat x.val).toArray⟩
def sameG (a b : List G) : Bool := decide (a = b)
theorem sameG_self (a : List G) : sameG a a = true := decide_eq_true rfl
theorem sameG_of {a b : List G} (h : a = b) : sameG a b = true := decide_eq_true h
theorem sameG_ne {a b : List G} (h : a ≠ b) : sameG a b = false := decide_eq_false h
theorem strOf_inj {a b : List G} (h : strOf a = strOf b) : a = b := by
  unfold strOf at h
  injection h with h
  have h : a.map (fun x => UInt8.ofNat x.val) = b.map (fun x => UInt8.ofNat x.val) := by simpa using h
  have key : ∀ (x y : G), UInt8.ofNat x.val = UInt8.ofNat y.val → x = y := fun x y e => by
    have := congrArg UInt8.toNat e
    simp only [UInt8.toNat_ofNat'] at this
    rw [Nat.mod_eq_of_lt x.lt, Nat.mod_eq_of_lt y.lt] at this
    exact G.eq_of this
  exact (List.map_inj_right key).1 h
theorem str_same (a b : List G) : ((strOf a).toList == (strOf b).toList) = sameG a b := by
  rw [ByteArray.toList_eq, ByteArray.toList_eq]
  unfold sameG
  by_cases h : a = b
  · rw [h, decide_eq_true rfl]; exact beq_self_eq_true _
  · rw [decide_eq_false h, beq_eq_false_iff_ne]
    intro e
    apply h
    apply strOf_inj
    have e' : (strOf a).data = (strOf b).data := Array.toList_inj.1 e
    cases hA : strOf a
    cases hB : strOf b
    rw [hA, hB] at e'
    simp only at e'
    rw [e']
theorem foldl_str : ∀ (l : List G) (s : ByteArray), (l.map fun x => (x.val : Int)).foldl (fun r n => r.push (UInt8.ofNat n.toNat)) s = ⟨s.data ++ (l.map fun x => UInt8.ofNat x.val).toArray⟩
  | [], s => by simp
  | x :: l, s => by
    rw [List.map_cons, List.foldl_cons, foldl_str l]
    simp [ByteArray.push]
theorem run_str {P : Program} (src dst e : TypeId) (hs : P.underlying src = some (.slice e)) (he : P.underlying e = some (.int .u8)) (hd : P.underlying dst = some .string)
    {w : World} {v : Value} {l : List G} (h : Sl w 1 v l.length (bvs l)) : (convert src dst v).run P w = .ok (.string (strOf l)) w := by
  obtain ⟨h0, A, c, rfl, hc, hm, hcell⟩ := h
  rcases A with _ | ad
  · have hl : l = [] := by
      rcases Nat.eq_zero_or_pos l.length with h | h
      · exact List.eq_nil_of_length_eq_zero h
      · obtain ⟨_, h', _⟩ := hcell h
        cases h'
    subst hl
    rw [run_convert_bytes_nil w src e hs he _ _ dst hd]
    rfl
  · rw [run_convert_bytes_string w src dst e _ _ _ hs he hd, run_bytesToString w ad l.length c (l.map fun x => (x.val : Int))]
    · rw [foldl_str, show ByteArray.empty.data = #[] from rfl, Array.empty_append]
      rfl
    · have hcs : ∀ j u, (bvs l)[j]? = some u → w.cell? (ad.add j) = some u := by
        intro j u hu
        rcases Nat.eq_zero_or_pos l.length with h | h
        · rw [List.eq_nil_of_length_eq_zero h] at hu; simp [bvs] at hu
        · obtain ⟨ad', h', _, hcl⟩ := hcell h
          injection h' with h'
          subst h'
          exact hcl j u hu
      have hl := run_loadCells_list (P := P) w ad (bvs l) hcs
      rw [bvs, List.length_map] at hl
      rw [hl, List.map_map]
      rfl
end Go.Proofs.Ytlkemgefioiffaa
